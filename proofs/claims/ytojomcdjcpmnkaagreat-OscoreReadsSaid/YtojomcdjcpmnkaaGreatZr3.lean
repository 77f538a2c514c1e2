/-
  Texts laid together (part 3): what the statement's walk and plain law need. No condition.
-/
import Derived.Test.YtojomcdjcpmnkaaGreatZr2
set_option linter.unusedVariables false
set_option linter.unusedSimpArgs false
set_option maxRecDepth 20000
set_option maxHeartbeats 4000000
namespace Go.Proofs.YtojomcdjcpmnkaaGreat.By
open Go.RowKit L A
attribute [local irreducible] AW AQ AO
theorem a0T (l:List UInt8)(b:UInt8):a0a (l++[b])=a0a l++[.val (.int .u8 (b.toNat:Int))]:=by simp[a0a]
theorem h0D (n:Nat):UInt8.ofNat n=u8 (n:Int):=by
 unfold u8
 exact UInt8.toNat_inj.1 (by simp only[UInt8.toNat_ofNat'];omega)
theorem m0F {n m:Nat}{z:Int}(hz:z=(m:Int))(hm:m<64):((n:Int)).fdiv (2^ (min z.toNat IntKind.u64.bits))=((n/2^m:Nat):Int):=by
 subst hz
 have e:min ((m:Int)).toNat IntKind.u64.bits=m:=by
  show min m 64=m
  omega
 rw[e,Int.fdiv_eq_ediv_of_nonneg _ (by exact Int.le_of_lt (Int.pow_pos (by omega))),show(2:Int)^m=((2^m:Nat):Int) by rw[Int.natCast_pow];rfl,←Int.natCast_ediv]
theorem o0C (b:List UInt8)(hb:b.length≤1000000):Sp Tryz.prog 193 [roB b,.val (.int .i64 64)] [] (Is (roB (l0a b))):=by
 refine yr Tryz.func193 _ Tryz.ntmps193 (fun w0 R0=> ?_)
 refine zB (zr ?_)
 refine zc (zE (zm (zB (zr ?_))))
 refine zb ?_
 refine yf ?_
 intro V1 hV1
 refine zQ ?_
 intro B2
 refine AO.g ?_
 refine z6 0 10 ?_
 refine xz 10 ?_
 refine AO.u ?_
 dsimp only[List.eraseIdx]
 refine zL 0 ?_
 intro V3 hV3
 refine zc (zE (zm (zB (yT ?_))))
 rw[show a0a b++[.val (.int .u8 128)]=a0a (b++[128])from(a0T b 128).symm,show b.length+1=(b++[128]).length by simp]
 refine zh [(0,_),(1,_)] (fun nn E H=> ∃(k:Nat) (V:Value) (l:List UInt8),(k≤g0b b.length)∧(V.oneCell'=true)∧(l=b++[128]++List.replicate k 0)∧nn=g0b b.length-k∧E= [(5,.val V)]∧H= [.row V 5 1 l.length (a0a l)]) _ (⟨0,_,b++[128],by omega,‹_›,by simp,rfl,rfl,rfl⟩) ?_
 rintro nn E H ⟨k,V,l,hk,hV,hl,rfl,rfl,rfl⟩
 dsimp only[cA,cN]
 have hll:l.length=b.length+1+k:=by rw[hl];simp;omega
 have hpz:=j0F b.length
 refine zB (zB (zr ?_))
 refine zb ?_
 refine xG ?_
 refine zb ?_
 refine wl wa ?_
 refine zb ?_
 refine zb ?_
 refine xX ?_
 refine yN ?_
 refine yZ (zE (zm ?_))
 refine yk (fun h1=> ?_) (fun h1=> ?_)<;>(try simp only[wr]at h1)
 ·have hk2:k<g0b b.length:=by
   by_cases g:k<g0b b.length
   ·exact g
   exfalso
   have h3:=k0Y b.length
   rw[show g0b b.length=k by omega]at h3
   omega
  have hgu:a0a (l++[0])=a0a l++[.val (.int .u8 0)]:=a0T l 0
  have hgl:(l++[0]).length=l.length+1:=by simp
  refine yI (zm (yT (zr ?_)))
  refine zb ?_
  refine zQ ?_
  intro B4
  refine AO.g ?_
  refine z6 0 22 ?_
  refine xz 22 ?_
  refine AO.u ?_
  dsimp only[List.eraseIdx]
  refine zL 0 ?_
  intro V5 hV5
  refine zc (zE (y5 ?_))
  rw[show a0a l++_=_ from hgu.symm,←hgl]
  refine zn _ _ _ (by omega) (⟨k+1,_,l++[0],by omega,‹_›,by rw[hl,List.replicate_succ',List.append_assoc (b++[128])],rfl,rfl,rfl⟩)
 have hk2:k=g0b b.length:=n0b hk (by omega)
 refine xx ?_
 refine xp ?_
 refine xu ?_
 refine y2 (zm (zB (yT ?_)))
 refine zh [(0,_),(1,_)] (fun nn E H=> ∃(j:Nat) (V:Value),(j=0)∧(V.oneCell'=true)∧j=nn∧E= [(5,.val V)]∧H= [.row V 5 1 l.length (a0a l)]) _ (⟨0,V,rfl,hV,rfl,rfl,rfl⟩) ?_
 rintro nn E H ⟨j,V,hj,hV,rfl,rfl,rfl⟩
 dsimp only[cA,cN]
 refine zB (zB (zr ?_))
 refine zb ?_
 refine xG ?_
 refine zb ?_
 refine wl wa ?_
 refine zb ?_
 refine yN ?_
 refine wl (O.neq rfl rfl rfl (by exact bne_eq_false_iff_eq.2 (by omega))) (zE (zm ?_))
 refine yk (fun h2=> ?_) (fun h2=> ?_)<;>(try simp only[wr]at h2)
 ·exact absurd h2 (by simp)
 refine xx ?_
 refine xp ?_
 refine xu ?_
 refine y2 (zm (zB (zr ?_)))
 refine zb ?_
 refine zR ?_
 refine xv ?_
 refine wl (O.mul rfl rfl rfl (by exact l0L (by omega))) ?_
 refine zc (zE (zm (zB (zB (zr ?_)))))
 refine zc (zE (zm (yT ?_)))
 refine zh [(6,_)] (fun nn E H=> ∃(k2:Nat) (V:Value) (q:List UInt8),(k2≤8)∧(V.oneCell'=true)∧(q=l++i0v b.length k2)∧(q.length≤l.length+8)∧nn=8-k2∧E= [(5,.val V),(7,.val (.int .i64 (7-(k2:Int))))]∧H= [.row V 5 1 q.length (a0a q)]) _ (⟨0,V,l,by omega,hV,by simp[i0v],by omega,rfl,rfl,rfl⟩) ?_
 rintro nn E H ⟨k2,V,q,hk3,hV,hq,hql,rfl,rfl,rfl⟩
 dsimp only[cA,cN]
 refine zB (zB (zr ?_))
 refine zb ?_
 refine xY (zE (zm ?_))
 refine yk (fun h3=> ?_) (fun h3=> ?_)<;>(try simp only[wr]at h3)
 ·have hs:=i0u b.length (k:=k2) (by omega)
  rw[h0D]at hs
  have hbn:(b.length:Int)*8=((b.length*8:Nat):Int):=by omega
  rw[hbn]
  refine yI (zm (zB (yT (zr ?_))))
  refine zb ?_
  refine zb ?_
  refine zb ?_
  refine xv ?_
  refine wl (O.mul rfl rfl rfl (by exact l0L (by omega))) ?_
  refine wl (O.shr rfl rfl rfl (by omega) (m0F (m:=8*(7-k2)) (by omega) (by omega))) ?_
  refine yQ ?_
  refine zQ ?_
  intro B6
  refine AO.g ?_
  refine z6 0 49 ?_
  refine xz 49 ?_
  refine AO.u ?_
  dsimp only[List.eraseIdx]
  refine zL 0 ?_
  intro V7 hV7
  refine zc (zE (y5 (zm (zr ?_))))
  refine zb ?_
  refine yN ?_
  refine zc (zE ?_)
  have hgu:=a0T q (u8 ((b.length*8/2^ (8*(7-k2)):Nat):Int))
  have hgl:(q++[u8 ((b.length*8/2^ (8*(7-k2)):Nat):Int)]).length=q.length+1:=by simp
  rw[show a0a q++_=_ from hgu.symm,←hgl,show 7-(k2:Int)-1=7-((k2+1:Nat):Int) by omega]
  refine zn _ _ _ (by omega) (⟨k2+1,_,q++[u8 ((b.length*8/2^ (8*(7-k2)):Nat):Int)],by omega,‹_›,by rw[hq,hs,List.append_assoc],by(have:=congrArg List.length hq;rw[cH,i0v,List.length_take]at this;omega),rfl,rfl,rfl⟩)
 obtain rfl:k2=8:=by omega
 have hqp:q=l0a b:=by rw[hq,hl,hk2,j0R];rfl
 subst hqp
 refine xx ?_
 refine xp ?_
 refine xu ?_
 refine y2 (zm (zB (zr ?_)))
 refine zb ?_
 refine zc (zE (zm (yR ?_)))
 refine AQ.g ?_
 refine z9 0 [4] ?_
 refine AQ.u ?_
 try dsimp only[List.map,List.eraseIdx,cA,cN]
 refine yd
def hTo (k q:Nat):UInt32:=if q<k then h8 l0s q else 0
theorem l0r (k q:Nat):(if q=k then h8 l0s k else hTo k q)=hTo (k+1) q:=by
 unfold hTo
 by_cases h:q=k
 ·subst h;rw[if_pos rfl,if_pos (by omega)]
 rw[if_neg h]
 by_cases h2:q<k
 ·rw[if_pos h2,if_pos (by omega)]
 rw[if_neg h2,if_neg (by omega)]
theorem n0y:arK e32 8 (hTo 8)=c8 l0s:=rfl
theorem q0u {t:Nat}(h:t<8):IntKind.u32.wrap (((hh512.getD t 0).toNat:Int)/4294967296)=((h8 l0s t).toNat:Int):=by
 have key: ∀t,t<8→(hh512.getD t 0).toNat/4294967296=(h8 l0s t).toNat:=by decide +kernel
 have:=key t h
 have h2:=(h8 l0s t).toNat_lt
 rw[c0b]
 omega
theorem p0c {k:Nat}(h:k<8){j:Nat}(hj:j=k):(hh512.map fun a=>AV.val (e64 a))[j]? =some (.val (e64 (hh512.getD k 0))):=by
 subst hj
 have hl:hh512.length=8:=rfl
 simp[List.getD,show j<hh512.length by omega]
def d0w (s:H8)(k:Nat):List UInt8:=(List.range k).flatMap fun i=>w4 (h8 s i)
theorem e0Q (s:H8)(k:Nat):d0w s (k+1)=d0w s k++w4 (h8 s k):=by
 unfold d0w
 rw[List.range_succ,List.flatMap_append];simp
theorem j0I (s:H8):d0w s 8=q0l s:=rfl
theorem c0H (s:H8): ∀k,(d0w s k).length=4*k
 |0=>rfl
 |k+1=>by rw[e0Q,cH,c0H s k];show 4*k+4=_;omega
theorem l0P (b:List UInt8)(hb:b.length≤1000000):Sp Tryz.prog 176 [roB b] [] (Is (roB (sha b))):=by
 refine yr Tryz.func176 _ Tryz.ntmps176 (fun w0 R0=> ?_)
 refine zB (zr ?_)
 refine zc (zE (zm (zB (zr ?_))))
 refine zd ?_
 intro B1
 refine zE (zm (zB (zB (zr ?_))))
 refine wl (xl rfl Tryz.func192 rfl rfl rfl i0y) ?_
 refine zb (zE (zm (yT ?_)))
 refine zh [(0,_),(3,_),(11,_)] (fun nn E H=> ∃(k:Nat),(k≤8)∧nn=8-k∧E= [(12,.val (.int .i64 (k:Int)))]∧H= [.blk B1 207 8 (arK e32 8 (hTo k))]) _ (⟨0,by omega,rfl,rfl,rfl⟩) ?_
 rintro nn E H ⟨k,hk,rfl,rfl,rfl⟩
 dsimp only[cA,cN]
 refine zB (zr ?_)
 refine zN (zE (zm (zB ?_)))
 refine yk (fun hlt=> ?_) (fun hlt=> ?_)<;>(try simp only[wr]at hlt)
 ·have hg1: ∀j,j=k→(hh512.map fun a=>AV.val (e64 a))[j]? =some (.val (e64 (hh512.getD k 0))):=fun j hj=>p0c (by omega) hj
  have hs1: ∀j,j=k→a0c (arK e32 8 (hTo k)) j [.val (e32 (h8 l0s k))]=arK e32 8 (hTo (k+1)):=fun j hj=>by
   rw[h0l (by omega:k<8) _ hj]
   exact e0r fun q _=>l0r k q
  have hln:(arK e32 8 (hTo k)).length=8:=h0m _ _
  have hc:=q0u (t:=k) (by omega)
  generalize hh512.getD k 0=x at*
  generalize h8 l0s k=y at*
  refine yI (zm (zB (yT (zB (zr ?_)))))
  refine zb ?_
  refine wl (O.index1 rfl rfl rfl ⟨(by omega),(by omega)⟩ (by exact hg1 _ (by omega))) ?_
  refine zc ?_
  refine zc (zE (zm (zr ?_)))
  refine zb ?_
  refine zb ?_
  refine wl (O.shrK 32 4294967296 rfl rfl rfl rfl (by rfl)) ?_
  refine wl (O.conv rfl rfl hc) ?_
  refine xo ?_
  refine AO.store (i:=0) rfl rfl rfl rfl rfl rfl (by rfl) (by rfl) (by exact Nat.ble_eq_true_of_le (by rw[hln];omega)) (by exact hs1 _ (by omega)) (by(dsimp only[List.set,List.append,cA,cN,AV.cells,a0c,List.take,List.drop,Nat.reduceAdd];done)) (zE (y5 (zm (zr ?_))))
  refine zA ?_
  refine zb (zE ?_)
  refine zn _ _ _ (by omega) (⟨k+1,by omega,rfl,rfl,rfl⟩)
 obtain rfl:k=8:=by omega
 rw[n0y]
 obtain⟨p,hp⟩: ∃p,p=l0a b:=⟨_,rfl⟩
 have hpm:p.length%64=0:=by rw[hp];exact k0Z b
 have hpl:p.length≤2000000:=by
  have:=j0F b.length
  rw[hp,l0a]
  simp only[cH,List.length_replicate,List.length_singleton,show(o0U b.length).length=8 from rfl];omega
 obtain⟨m,hm⟩: ∃m,64*m=p.length:=⟨p.length/64,by omega⟩
 refine xx ?_
 refine xp ?_
 refine xu ?_
 refine y2 (zm (zB (zr ?_)))
 refine zb ?_
 refine wl (xl rfl Tryz.func193 rfl rfl rfl (o0C b hb)) ?_
 refine zc (zE (zm (zB (zB (zr ?_)))))
 refine zc (zE (zm (yT ?_)))
 rw[←hp]
 refine zh [(3,_),(6,_)] (fun nn E H=> ∃(k:Nat),(k≤m)∧nn=m-k∧E= [(7,.val (.int .i64 ((64*k:Nat):Int)))]∧H= [.blk B1 207 8 (c8 (b0Y p k))]) _ (⟨0,by omega,rfl,rfl,rfl⟩) ?_
 rintro nn E H ⟨k,hk,rfl,rfl,rfl⟩
 dsimp only[cA,cN]
 refine zB (zB (zr ?_))
 refine zb ?_
 refine zb ?_
 refine zR ?_
 refine zN (zE (zm ?_))
 refine yk (fun hlt=> ?_) (fun hlt=> ?_)<;>(try simp only[wr]at hlt)
 ·obtain⟨bk,hbk⟩: ∃bk,bk=(p.drop (64*k)).take 64:=⟨_,rfl⟩
  have hbl:bk.length=64:=by rw[hbk,List.length_take,List.length_drop];omega
  have hpart:((a0a p).drop (64*k*1)).take (bk.length*1)=a0a bk:=by rw[e0n rfl rfl,hbl,hbk]
  have hst:b0Y p (k+1)=h0V (b0Y p k) bk:=by rw[hbk];rfl
  refine yI (zm (zB (yT ?_)))
  refine yv 7 ?_
  simp only[cT,cZ,cD,cO]
  refine wm wj ?_
  refine zG ?_
  refine zG ?_
  refine zG ?_
  refine xL ?_
  refine wm (O.sliceLHm (m:=bk.length) rfl rfl rfl rfl (l:=64*k) (h:=64*k+64) (by omega) (by omega) (by omega) (by omega) (by omega) (by exact hpart)) ?_
  refine wm (xl rfl Tryz.func194 rfl rfl rfl (h0k (b0Y p k) bk hbl)) ?_
  refine wh ?_
  simp only[a0l,cN,cA,cP]
  refine ye 0 (zE (y5 (zm (zr ?_))))
  refine zb ?_
  refine zA ?_
  refine zc (zE ?_)
  rw[←hst,show((64*k:Nat):Int)+64=((64*(k+1):Nat):Int) by omega]
  refine zn _ _ _ (by omega) (⟨k+1,by omega,rfl,rfl,rfl⟩)
 obtain rfl:k=m:=by omega
 have hsh:=o0q b hp hm
 generalize b0Y p k=hf at*
 refine xx ?_
 refine xp ?_
 refine xu ?_
 refine y2 (zm (zB (zr ?_)))
 refine zc (zE (zm (zB (zB (zr ?_)))))
 refine wl wj ?_
 refine zb (zE (zm (yT ?_)))
 refine AW.g ?_
 refine G.nilRow 5 1 ?_
 refine AW.u ?_
 refine zh [(37,_)] (fun nn E H=> ∃(i:Nat) (V:Value),(i≤8)∧(V.oneCell'=true)∧nn=8-i∧E= [(8,.val V),(38,.val (.int .i64 (i:Int)))]∧H= [.row V 5 1 (d0w hf i).length (a0a (d0w hf i))]) _ (⟨0,_,by omega,rfl,rfl,rfl,rfl⟩) ?_
 rintro nn E H ⟨i,V,hi,hV,rfl,rfl,rfl⟩
 dsimp only[cA,cN]
 have hol:=c0H hf i
 refine zB (zr ?_)
 refine zN (zE (zm (zB ?_)))
 refine yk (fun hlt2=> ?_) (fun hlt2=> ?_)<;>(try simp only[wr]at hlt2)
 ·have hg2: ∀j,j=i→(c8 hf)[j]? =some (.val (e32 (h8 hf i))):=fun j hj=>m0n hf (by omega) hj
  have hgu:a0a (d0w hf i)++[.val (.int .u8 (((h8 hf i)>>>UInt32.ofNat 24).toUInt8.toNat:Int)),.val (.int .u8 (((h8 hf i)>>>UInt32.ofNat 16).toUInt8.toNat:Int)),.val (.int .u8 (((h8 hf i)>>>UInt32.ofNat 8).toUInt8.toNat:Int)),.val (.int .u8 ((h8 hf i).toUInt8.toNat:Int))]=a0a (d0w hf (i+1)):=by
   rw[e0Q];simp[a0a,w4]
  have hgl:(d0w hf (i+1)).length=(d0w hf i).length+4:=by rw[c0H,c0H];omega
  refine yI (zm (zB (yT (zB (zr ?_)))))
  refine wl (O.index1 rfl rfl rfl ⟨(by omega),(by omega)⟩ (by exact hg2 _ (by omega))) ?_
  refine zc (zE (zm (zr ?_)))
  refine zb ?_
  refine zb ?_
  refine wl (O.shr rfl rfl rfl (by omega) (e0J (n:=24) rfl (by decide))) ?_
  refine wl (O.conv rfl rfl c0L) ?_
  refine zb ?_
  refine wl (O.shr rfl rfl rfl (by omega) (e0J (n:=16) rfl (by decide))) ?_
  refine wl (O.conv rfl rfl c0L) ?_
  refine zb ?_
  refine wl (O.shr rfl rfl rfl (by omega) (e0J (n:=8) rfl (by decide))) ?_
  refine wl (O.conv rfl rfl c0L) ?_
  refine zb ?_
  refine wl (O.conv rfl rfl c0L) ?_
  refine yF ?_
  intro B2
  refine AO.g ?_
  refine z6 0 53 ?_
  refine xz 53 ?_
  refine AO.u ?_
  dsimp only[List.eraseIdx]
  refine AO.append' (i:=0) rfl rfl rfl rfl (by rfl) (by rfl) rfl rfl rfl (by exact SrcA.ro TyD.ax (by rfl) (lB rfl)) (by rfl) (by(unfold maxLen;omega)) (by omega) (by(dsimp only[List.set,List.append,cA,cN,AV.cells,a0c,List.take,List.drop,Nat.reduceAdd];done)) (fun _=>by(dsimp only[List.set];done)) ?_
  intro V3 hV3
  refine zc (zE (y5 (zm (zr ?_))))
  refine zA ?_
  refine zb (zE ?_)
  rw[show a0a (d0w hf i)++_=_ from hgu,←hgl]
  refine zn _ _ _ (by omega) (⟨i+1,_,by omega,‹_›,rfl,rfl,rfl⟩)
 obtain rfl:i=8:=by omega
 rw[j0I,hsh]
 refine xx ?_
 refine xp ?_
 refine xu ?_
 refine y2 (zm (zB (zr ?_)))
 refine zb ?_
 refine zc (zE (zm (yR ?_)))
 refine AQ.g ?_
 refine z9 0 [2] ?_
 refine AQ.u ?_
 try dsimp only[List.map,List.eraseIdx,cA,cN]
 refine yd
theorem l0y (l:List UInt8)(hl:l.length≤1000000):Sp Tryz.prog 69 [roB l] [] (b0q 5 1 l.length (a0a l)):=by
 refine yr Tryz.func69 _ Tryz.ntmps69 (fun w0 R0=> ?_)
 refine zB (zr ?_)
 refine zc (zE (zm (zB (zr ?_))))
 refine zb ?_
 refine yf ?_
 intro V1 hV1
 refine zc (zE (zm (yR ?_)))
 refine AQ.ret1 rfl rfl ⟨_,by repeat(first|exact List.Sublist.slnil|refine List.Sublist.cons_cons _ ?_),List.Perm.refl _⟩ (⟨_,rfl,‹_›,rfl⟩)
theorem i0F (l:List UInt8)(hl:l.length≤1000000):Sp Tryz.prog 108 [roB l] [] (b0q 5 1 l.length (a0a l)):=by
 refine yr Tryz.func108 _ Tryz.ntmps108 (fun w0 R0=> ?_)
 refine zB (zr ?_)
 refine zc (zE (zm (zB (zr ?_))))
 refine zb ?_
 refine yf ?_
 intro V1 hV1
 refine zc (zE (zm (yR ?_)))
 refine AQ.ret1 rfl rfl ⟨_,by repeat(first|exact List.Sublist.slnil|refine List.Sublist.cons_cons _ ?_),List.Perm.refl _⟩ (⟨_,rfl,‹_›,rfl⟩)
theorem h0I (c id:List UInt8)(piv:Int)(q:Nat):(if q=0 then c.getD 0 0^^^u8 (id.length:Int)else c.getD q 0)=nF c id piv 0 0 q:=by
 unfold nF
 rw[if_neg (show ¬(13-0≤q∧q<13) by omega),if_neg (show ¬(8-id.length≤q∧q<8-id.length+0) by omega)]
 by_cases h:q=0
 ·subst h;simp
 simp[h]
theorem f0b {c:List UInt8}(h:c.length=13):a0a c=arB 13 (fun q=>c.getD q 0):=by
 rw[arB]
 congr 1
 apply List.ext_getElem
 ·rw[d0b,h]
 intro i h1 h2
 simp[fnB,h1]
theorem j0k {piv:Int}{i:Nat}{z:Int}(hz:z=8*(i:Int))(hi:i<5):piv.fdiv (2^ (min z.toNat IntKind.i64.bits))=piv/2^ (8*i):=by
 subst hz
 have e:min (8*(i:Int)).toNat IntKind.i64.bits=8*i:=by
  show min _ 64=_
  omega
 rw[e,Int.fdiv_eq_ediv_of_nonneg _ (by exact Int.le_of_lt (Int.pow_pos (by omega)))]
theorem h0G {c id:List UInt8}{piv:Int}(h:c.length≠13∨7<id.length):a0V c id piv=([],1):=if_pos h
theorem h0F {c id:List UInt8}{piv:Int}(h: ¬(c.length≠13∨7<id.length))(h2:piv<0∨1099511627775<piv):a0V c id piv=([],8):=(if_neg h).trans (if_pos h2)
theorem f0x {c id:List UInt8}{piv:Int}(h: ¬(c.length≠13∨7<id.length))(h2: ¬(piv<0∨1099511627775<piv)):a0V c id piv=(h0H c id piv,0):=(if_neg h).trans (if_neg h2)
abbrev o0v (r:List UInt8×Int):AV:= .tup [roB r.1,.val (.int .i64 r.2)]
theorem f0Y (c id:List UInt8)(piv:Int)(hcl:c.length≤1000000):Sp Tryz.prog 66 [roB c,roB id,.val (.int .i64 piv)] [] (Is (o0v (a0V c id piv))):=by
 refine yr Tryz.func66 _ Tryz.ntmps66 (fun w0 R0=> ?_)
 refine zB (zr ?_)
 refine zc ?_
 refine zc (zE (zm (zB (zB (zr ?_)))))
 refine zb ?_
 refine zR ?_
 refine yZ ?_
 refine zb ?_
 refine yl ?_
 refine zX 15 ?_
 refine yb 16 ?_
 refine zF (zE (zm ?_))
 refine yk (fun h1=> ?_) (fun h1=> ?_)<;>(try simp only[wr]at h1)
 ·rw[h0G (by omega)]
  refine zB (zr ?_)
  refine zc ?_
  refine zc (zE (zm (yR (y0 ?_))))
  refine wg yU yy (⟨rfl,rfl⟩)
 have hc:c.length=13:=by omega
 have hid:id.length≤7:=by omega
 refine yI (zm (zB (zB (zr ?_))))
 refine zb ?_
 refine zN ?_
 refine zb ?_
 refine yl ?_
 refine yb 22 ?_
 refine zF (zE (zm ?_))
 refine yk (fun h2=> ?_) (fun h2=> ?_)<;>(try simp only[wr]at h2)
 ·rw[h0F (by omega) (by omega)]
  refine zB (zr ?_)
  refine zc ?_
  refine zc (zE (zm (yR (y0 ?_))))
  refine wg yU yy (⟨rfl,rfl⟩)
 rw[f0x (by omega) (by omega)]
 have hb0:=f0b hc
 have hst0: ∀j,j=0→a0c (arB 13 (fun q=>c.getD q 0)) j [.val (.int .u8 (((c.getD 0 0)^^^u8 (id.length:Int)).toNat:Int))]=arB 13 (nF c id piv 0 0):=fun j hj=>by
  rw[a0I (by omega) _ hj]
  exact a0e fun q _=>h0I c id piv q
 have hge0: ∀j,j=0→(arB 13 (fun q=>c.getD q 0))[j]? =some (.val (.int .u8 (((c.getD 0 0)).toNat:Int))):=fun j hj=>a0u (by omega) hj
 have hal: ∀f,(arB 13 f).length=13:=fun f=>a0b _ _
 have hv0: ∀f q,q<13→(arB 13 f)[q]? =some (.val (.int .u8 ((f q).toNat:Int))):=fun f q hq=>a0u hq rfl
 refine yI (zm (zB (zr ?_)))
 refine zb ?_
 refine AO.opRow (xl rfl Tryz.func69 rfl rfl rfl (l0y _ (by omega))) rfl rfl rfl ?_
 intro V1 hV1
 refine zc ?_
 rw[hb0,hc]
 refine AO.g ?_
 refine G.openRow 0 rfl (by omega) (fun b8 cap8 hc1 hc2 hxs hVe=> ?_)
 subst hVe
 dsimp only[List.set]
 refine AO.u (zE (zm (zB (zr ?_))))
 refine zb ?_
 refine wb ?_
 refine wl (O.load rfl rfl (by repeat(exact List.Mem.head _)) (by exact hge0 _ (by omega))) ?_
 refine zb ?_
 refine zR ?_
 refine yQ ?_
 refine wl (O.xor_ rfl rfl rfl c0l) ?_
 refine wb ?_
 refine yA 0 rfl rfl rfl rfl rfl rfl (by rfl) (by rfl) (Nat.ble_eq_true_of_le (by rw[hal];omega)) (by exact hst0 _ (by omega)) (zE (zm (zB (zB (zr ?_)))))
 refine zb ?_
 refine zR ?_
 refine zb (zE (zm (yT ?_)))
 refine zh [(1,_),(2,_),(8,_),(36,_)] (fun nn E H=> ∃(i:Nat),(i≤id.length)∧nn=id.length-i∧E= [(37,.val (.int .i64 (i:Int)))]∧H= [.blk b8 5 (cap8*1) (arB 13 (nF c id piv i 0))]) _ (⟨0,by omega,rfl,rfl,rfl⟩) ?_
 rintro nn E H ⟨i,hi,rfl,rfl,rfl⟩
 dsimp only[cA,cN]
 refine zB (zr ?_)
 refine zN (zE (zm (zB ?_)))
 refine yk (fun h3=> ?_) (fun h3=> ?_)<;>(try simp only[wr]at h3)
 ·have hil:i<id.length:=by omega
  have hge: ∀j,j=8-id.length+i→(arB 13 (nF c id piv i 0))[j]? =some (.val (.int .u8 ((nF c id piv i 0 (8-id.length+i)).toNat:Int))):=fun j hj=>a0u (by omega) hj
  have hst: ∀j,j=8-id.length+i→a0c (arB 13 (nF c id piv i 0)) j [.val (.int .u8 ((nF c id piv i 0 (8-id.length+i)^^^bt id i).toNat:Int))]=arB 13 (nF c id piv (i+1) 0):=fun j hj=>by
   rw[a0I (by omega) _ hj]
   exact a0e fun q _=>o0P hid hil q
  refine yI (zm (zB (yT (zB (zr ?_)))))
  refine zb ?_
  refine zc (zE (zm ?_))
  refine yv 14 ?_
  simp only[cT,cZ,cD,cO]
  refine zG ?_
  refine zG ?_
  refine wm (xm rfl rfl) ?_
  refine xy ?_
  refine zG ?_
  refine xL ?_
  refine x8 ?_
  refine wm (O.load rfl rfl (by repeat(exact List.Mem.head _)) (by exact hge _ (by omega))) ?_
  refine zG ?_
  refine zG ?_
  refine xH ?_
  refine wm (O.loadR rfl rfl (by exact c0N hil (by omega))) ?_
  refine wm (O.xor_ rfl rfl rfl c0l) ?_
  refine x8 ?_
  refine wh ?_
  simp only[a0l,cN,cA,cP]
  refine yA 0 rfl rfl rfl rfl rfl rfl (by rfl) (by rfl) (Nat.ble_eq_true_of_le (by rw[hal];omega)) (by exact hst _ (by omega)) (zE (y5 (zm (zr ?_))))
  refine zA ?_
  refine zb (zE ?_)
  refine zn _ _ _ (by omega) (⟨i+1,by omega,rfl,rfl,rfl⟩)
 obtain rfl:i=id.length:=by omega
 refine xx ?_
 refine xp ?_
 refine xu ?_
 refine y2 (zm (zB (zB (zr ?_))))
 refine zc (zE (zm (yT ?_)))
 refine zh [(2,_),(8,_)] (fun nn E H=> ∃(i:Nat),(i≤5)∧nn=5-i∧E= [(10,.val (.int .i64 (i:Int)))]∧H= [.blk b8 5 (cap8*1) (arB 13 (nF c id piv id.length i))]) _ (⟨0,by omega,rfl,rfl,rfl⟩) ?_
 rintro nn E H ⟨i,hi,rfl,rfl,rfl⟩
 dsimp only[cA,cN]
 refine zB (zB (zr ?_))
 refine zb ?_
 refine zN (zE (zm ?_))
 refine yk (fun h4=> ?_) (fun h4=> ?_)<;>(try simp only[wr]at h4)
 ·have hge: ∀j,j=12-i→(arB 13 (nF c id piv id.length i))[j]? =some (.val (.int .u8 ((nF c id piv id.length i (12-i)).toNat:Int))):=fun j hj=>a0u (by omega) hj
  have hst: ∀j,j=12-i→a0c (arB 13 (nF c id piv id.length i)) j [.val (.int .u8 ((nF c id piv id.length i (12-i)^^^u8 (piv/2^ (8*i))).toNat:Int))]=arB 13 (nF c id piv id.length (i+1)):=fun j hj=>by
   rw[a0I (by omega) _ hj]
   exact a0e fun q _=>l0Z (by omega) q
  refine yI (zm (zB (yT ?_)))
  refine yv 12 ?_
  simp only[cT,cZ,cD,cO]
  refine zG ?_
  refine zG ?_
  refine xy ?_
  refine x8 ?_
  refine wm (O.load rfl rfl (by repeat(exact List.Mem.head _)) (by exact hge _ (by omega))) ?_
  refine zG ?_
  refine zG ?_
  refine xK ?_
  refine wm (O.shr rfl rfl rfl (by omega) (j0k (by rfl) (by omega))) ?_
  refine wm (O.conv rfl rfl d0o) ?_
  refine wm (O.xor_ rfl rfl rfl c0l) ?_
  refine x8 ?_
  refine wh ?_
  simp only[a0l,cN,cA,cP]
  refine yA 0 rfl rfl rfl rfl rfl rfl (by rfl) (by rfl) (Nat.ble_eq_true_of_le (by rw[hal];omega)) (by exact hst _ (by omega)) (zE (y5 (zm (zr ?_))))
  refine zb ?_
  refine zA ?_
  refine zc (zE ?_)
  refine zn _ _ _ (by omega) (⟨i+1,by omega,rfl,rfl,rfl⟩)
 obtain rfl:i=5:=by omega
 refine xx ?_
 refine xp ?_
 refine xu ?_
 refine y2 (zm (zB (zr ?_)))
 refine zb ?_
 refine zc ?_
 refine zc (zE (zm (yR ?_)))
 refine AQ.g ?_
 refine G.closeRow (b:=b8) (sz:=1) (n:=13) (cap:=cap8) 0 rfl (hal _) rfl hc1 hc2 ?_
 refine AQ.u ?_
 dsimp only[List.set]
 refine AQ.g ?_
 refine z9 0 [6] ?_
 refine AQ.u ?_
 try dsimp only[List.map,List.eraseIdx,cA,cN]
 refine AQ.ret2 rfl rfl rfl nS (⟨by rw[o0v,h0H,f0p];rfl,rfl⟩)
theorem f0w (c id:List UInt8)(piv:Int)(hcl:c.length≤1000000):Sp Tryz.prog 59 [roB c,roB id,.val (.int .i64 piv)] [] (Is (o0v (a0V c id piv))):=by
 refine yr Tryz.func59 _ Tryz.ntmps59 (fun w0 R0=> ?_)
 refine zB (zr ?_)
 refine zc ?_
 refine zc (zE (zm (zB (zB (zr ?_)))))
 refine zb ?_
 refine zR ?_
 refine yZ ?_
 refine zb ?_
 refine yl ?_
 refine zX 16 ?_
 refine yb 17 ?_
 refine zF (zE (zm ?_))
 refine yk (fun h1=> ?_) (fun h1=> ?_)<;>(try simp only[wr]at h1)
 ·rw[h0G (by omega)]
  refine zB (zr ?_)
  refine zc ?_
  refine zc (zE (zm (yR (y0 ?_))))
  refine wg yU yy (⟨rfl,rfl⟩)
 have hc:c.length=13:=by omega
 have hid:id.length≤7:=by omega
 refine yI (zm (zB (zB (zr ?_))))
 refine zb ?_
 refine zN ?_
 refine zb ?_
 refine yl ?_
 refine yb 23 ?_
 refine zF (zE (zm ?_))
 refine yk (fun h2=> ?_) (fun h2=> ?_)<;>(try simp only[wr]at h2)
 ·rw[h0F (by omega) (by omega)]
  refine zB (zr ?_)
  refine zc ?_
  refine zc (zE (zm (yR (y0 ?_))))
  refine wg yU yy (⟨rfl,rfl⟩)
 rw[f0x (by omega) (by omega)]
 have hb0:=f0b hc
 have hst0: ∀j,j=0→a0c (arB 13 (fun q=>c.getD q 0)) j [.val (.int .u8 (((c.getD 0 0)^^^u8 (id.length:Int)).toNat:Int))]=arB 13 (nF c id piv 0 0):=fun j hj=>by
  rw[a0I (by omega) _ hj]
  exact a0e fun q _=>h0I c id piv q
 have hge0: ∀j,j=0→(arB 13 (fun q=>c.getD q 0))[j]? =some (.val (.int .u8 (((c.getD 0 0)).toNat:Int))):=fun j hj=>a0u (by omega) hj
 have hal: ∀f,(arB 13 f).length=13:=fun f=>a0b _ _
 have hv0: ∀f q,q<13→(arB 13 f)[q]? =some (.val (.int .u8 ((f q).toNat:Int))):=fun f q hq=>a0u hq rfl
 refine yI (zm (zB (zr ?_)))
 refine zb ?_
 refine AO.opRow (xl rfl Tryz.func108 rfl rfl rfl (i0F _ (by omega))) rfl rfl rfl ?_
 intro V1 hV1
 refine zc ?_
 rw[hb0,hc]
 refine AO.g ?_
 refine G.openRow 0 rfl (by omega) (fun b8 cap8 hc1 hc2 hxs hVe=> ?_)
 subst hVe
 dsimp only[List.set]
 refine AO.u (zE (zm (zB (zr ?_))))
 refine zb ?_
 refine wb ?_
 refine wl (O.load rfl rfl (by repeat(exact List.Mem.head _)) (by exact hge0 _ (by omega))) ?_
 refine zb ?_
 refine zR ?_
 refine yQ ?_
 refine wl (O.xor_ rfl rfl rfl c0l) ?_
 refine wb ?_
 refine yA 0 rfl rfl rfl rfl rfl rfl (by rfl) (by rfl) (Nat.ble_eq_true_of_le (by rw[hal];omega)) (by exact hst0 _ (by omega)) (zE (zm (zB (zB (zr ?_)))))
 refine zb ?_
 refine zR ?_
 refine zb (zE (zm (yT ?_)))
 refine zh [(1,_),(2,_),(8,_),(36,_),(37,_)] (fun nn E H=> ∃(i:Nat),(i≤id.length)∧nn=id.length-i∧E= [(38,.val (.int .i64 (i:Int)))]∧H= [.blk b8 5 (cap8*1) (arB 13 (nF c id piv i 0))]) _ (⟨0,by omega,rfl,rfl,rfl⟩) ?_
 rintro nn E H ⟨i,hi,rfl,rfl,rfl⟩
 dsimp only[cA,cN]
 refine zB (zr ?_)
 refine zN (zE (zm (zB ?_)))
 refine yk (fun h3=> ?_) (fun h3=> ?_)<;>(try simp only[wr]at h3)
 ·have hil:i<id.length:=by omega
  have hge: ∀j,j=8-id.length+i→(arB 13 (nF c id piv i 0))[j]? =some (.val (.int .u8 ((nF c id piv i 0 (8-id.length+i)).toNat:Int))):=fun j hj=>a0u (by omega) hj
  have hst: ∀j,j=8-id.length+i→a0c (arB 13 (nF c id piv i 0)) j [.val (.int .u8 ((nF c id piv i 0 (8-id.length+i)^^^bt id i).toNat:Int))]=arB 13 (nF c id piv (i+1) 0):=fun j hj=>by
   rw[a0I (by omega) _ hj]
   exact a0e fun q _=>o0P hid hil q
  refine yI (zm (zB (yT (zB (zr ?_)))))
  refine zb ?_
  refine z8 ?_
  refine wl (O.loadR rfl rfl (by exact c0N hil (by omega))) ?_
  refine zc ?_
  refine zc (zE (zm (zr ?_)))
  refine zb ?_
  refine zb ?_
  refine zR ?_
  refine yN ?_
  refine zb ?_
  refine zA ?_
  refine wb ?_
  refine wl (O.load rfl rfl (by repeat(exact List.Mem.head _)) (by exact hge _ (by omega))) ?_
  refine zb ?_
  refine wl (O.xor_ rfl rfl rfl c0l) ?_
  refine wb ?_
  refine yA 0 rfl rfl rfl rfl rfl rfl (by rfl) (by rfl) (Nat.ble_eq_true_of_le (by rw[hal];omega)) (by exact hst _ (by omega)) (zE (y5 (zm (zr ?_))))
  refine zA ?_
  refine zb (zE ?_)
  refine zn _ _ _ (by omega) (⟨i+1,by omega,rfl,rfl,rfl⟩)
 obtain rfl:i=id.length:=by omega
 refine xx ?_
 refine xp ?_
 refine xu ?_
 refine y2 (zm (zB (zB (zr ?_))))
 refine zc (zE (zm (yT ?_)))
 refine zh [(2,_),(8,_)] (fun nn E H=> ∃(i:Nat),(i≤5)∧nn=5-i∧E= [(11,.val (.int .i64 (i:Int)))]∧H= [.blk b8 5 (cap8*1) (arB 13 (nF c id piv id.length i))]) _ (⟨0,by omega,rfl,rfl,rfl⟩) ?_
 rintro nn E H ⟨i,hi,rfl,rfl,rfl⟩
 dsimp only[cA,cN]
 refine zB (zB (zr ?_))
 refine zb ?_
 refine zN (zE (zm ?_))
 refine yk (fun h4=> ?_) (fun h4=> ?_)<;>(try simp only[wr]at h4)
 ·have hge: ∀j,j=12-i→(arB 13 (nF c id piv id.length i))[j]? =some (.val (.int .u8 ((nF c id piv id.length i (12-i)).toNat:Int))):=fun j hj=>a0u (by omega) hj
  have hst: ∀j,j=12-i→a0c (arB 13 (nF c id piv id.length i)) j [.val (.int .u8 ((nF c id piv id.length i (12-i)^^^u8 (piv/2^ (8*i))).toNat:Int))]=arB 13 (nF c id piv id.length (i+1)):=fun j hj=>by
   rw[a0I (by omega) _ hj]
   exact a0e fun q _=>l0Z (by omega) q
  refine yI (zm (zB (yT ?_)))
  refine yv 12 ?_
  simp only[cT,cZ,cD,cO]
  refine zG ?_
  refine zG ?_
  refine xy ?_
  refine x8 ?_
  refine wm (O.load rfl rfl (by repeat(exact List.Mem.head _)) (by exact hge _ (by omega))) ?_
  refine zG ?_
  refine zG ?_
  refine xK ?_
  refine wm (O.shr rfl rfl rfl (by omega) (j0k (by rfl) (by omega))) ?_
  refine wm (O.conv rfl rfl d0o) ?_
  refine wm (O.xor_ rfl rfl rfl c0l) ?_
  refine x8 ?_
  refine wh ?_
  simp only[a0l,cN,cA,cP]
  refine yA 0 rfl rfl rfl rfl rfl rfl (by rfl) (by rfl) (Nat.ble_eq_true_of_le (by rw[hal];omega)) (by exact hst _ (by omega)) (zE (y5 (zm (zr ?_))))
  refine zb ?_
  refine zA ?_
  refine zc (zE ?_)
  refine zn _ _ _ (by omega) (⟨i+1,by omega,rfl,rfl,rfl⟩)
 obtain rfl:i=5:=by omega
 refine xx ?_
 refine xp ?_
 refine xu ?_
 refine y2 (zm (zB (zr ?_)))
 refine zb ?_
 refine zc ?_
 refine zc (zE (zm (yR ?_)))
 refine AQ.g ?_
 refine G.closeRow (b:=b8) (sz:=1) (n:=13) (cap:=cap8) 0 rfl (hal _) rfl hc1 hc2 ?_
 refine AQ.u ?_
 dsimp only[List.set]
 refine AQ.g ?_
 refine z9 0 [6] ?_
 refine AQ.u ?_
 try dsimp only[List.map,List.eraseIdx,cA,cN]
 refine AQ.ret2 rfl rfl rfl nS (⟨by rw[o0v,h0H,f0p];rfl,rfl⟩)
def ext (n:Int):Int×List UInt8:=if n<13 then(n,[])else if n<269 then(13,[u8 (n-13)])else(14,[u8 ((n-269)/256),u8 (n-269)])
theorem c0t (n:Int)(h:0≤n):0≤(ext n).1∧(ext n).1≤14:=by unfold ext;(repeat' split)<;>simp<;>omega
theorem f0F (n:Int):(ext n).2.length≤2:=by unfold ext;(repeat' split)<;>simp
def hdr (d n:Int):List UInt8:=u8 (16*(ext d).1+(ext n).1)::((ext d).2++(ext n).2)
theorem j0Z (d n:Int):(hdr d n).length≤5:=by
 have:=f0F d
 have:=f0F n
 simp only[hdr,cL,cH];omega
def f0S:Int→List Opt→List UInt8
 |_,[]=> []
 |l,o::os=>hdr (o.num-l) o.val.length++o.val++f0S o.num os
def a0J:Int→List Opt→Int
 |l,[]=>l
 |_,o::os=>a0J o.num os
theorem f0Z (o:Opt): ∀(l:Int) (os:List Opt),f0S l (os++[o])=f0S l os++(hdr (o.num-a0J l os) o.val.length++o.val)
 |l,[]=>by simp[f0S,a0J]
 |l,p::os=>by simp[f0S,a0J,f0Z o p.num os]
theorem b0m (o:Opt): ∀(l:Int) (os:List Opt),a0J l (os++[o])=o.num
 |l,[]=>rfl
 |l,p::os=>b0m o p.num os
def AscO:Int→List Opt→Prop
 |_,[]=>True
 |l,o::os=>l≤o.num∧o.num≤65535∧(o.val.length:Int)≤1034∧AscO o.num os
instance AscO.dec: ∀(l:Int) (os:List Opt),Decidable (AscO l os)
 |_,[]=>isTrue trivial
 |l,o::os=>by
  unfold AscO
  have:=AscO.dec o.num os
  infer_instance
theorem e0z (o:Opt): ∀(l:Int) (os:List Opt),AscO l (os++[o])↔AscO l os∧a0J l os≤o.num∧o.num≤65535∧(o.val.length:Int)≤1034
 |l,[]=>by simp[AscO,a0J]
 |l,p::os=>by simp only[cA,AscO,a0J,e0z o p.num os];constructor<;>(rintro h;simp_all)
theorem i0d: ∀{l:Int} {os ps:List Opt},AscO l (os++ps)→AscO l os
 |l,[],ps,h=>trivial
 |l,o::os,ps,h=>⟨h.1,h.2.1,h.2.2.1,i0d h.2.2.2⟩
theorem b0D {l:Int}{os:List Opt}(h:AscO l os)(k:Nat):AscO l (os.take k):=i0d (ps:=os.drop k) (by rw[List.take_append_drop];exact h)
theorem d0l {l:Int}{os:List Opt}(h:AscO l os){k:Nat}(hk:k<os.length):a0J l (os.take k)≤(oat os k).num∧(oat os k).num≤65535∧((oat os k).val.length:Int)≤1034:=by
 have:=b0D h (k+1)
 rw[a0i Opt.none hk,e0z]at this
 exact this.2
theorem f0z: ∀{l:Int} {os:List Opt},AscO l os→l≤a0J l os∧(os≠ []→a0J l os≤65535)
 |l,[],h=>⟨Int.le_refl _,fun h=>absurd rfl h⟩
 |l,o::os,h=>by
  have:=f0z h.2.2.2
  refine⟨Int.le_trans h.1 this.1,fun _=> ?_⟩
  cases os with
  |nil=>exact h.2.1
  |cons p os=>exact this.2 (by simp)
theorem d0I {l:Int}{os:List Opt}(h:AscO l os)(hl:l≤65535):l≤a0J l os∧a0J l os≤65535:=by
 refine⟨(f0z h).1,?_⟩
 cases os with
 |nil=>exact hl
 |cons p os=>exact(f0z h).2 (by simp)
theorem f0s: ∀{l:Int} {os:List Opt},AscO l os→(f0S l os).length≤os.length*1039
 |l,[],_=>by simp[f0S]
 |l,o::os,h=>by
  have h1:=f0s h.2.2.2
  have h2:=j0Z (o.num-l) o.val.length
  have h3:=h.2.2.1
  simp only[f0S,cH,cL];omega
def f0B (m:Msg):List UInt8:= [u8 (64+16*m.ty+m.tok.length),u8 m.code,u8 (m.id/256),u8 m.id]
def raw (m:Msg):List UInt8:=f0B m++m.tok++f0S 0 m.opts++(if m.pay= []then []else 255::m.pay)
def h0p (c:Int):Prop:=c/32=0∨c/32=2∨c/32=4∨c/32=5
def OkM (m:Msg):Prop:=(0≤m.ty∧m.ty≤3∧0≤m.code∧m.code≤255∧h0p m.code)∧(0≤m.id∧m.id≤65535∧(m.tok.length:Int)≤8∧(m.opts.length:Int)≤32)∧AscO 0 m.opts∧
 (m.code=0→(m.tok.length:Int)+m.opts.length+m.pay.length≤0)∧(m.ty=3→m.code=0)∧(m.pay.length:Int)≤4096
instance (c:Int):Decidable (h0p c):=by unfold h0p;infer_instance
instance (m:Msg):Decidable (OkM m):=by unfold OkM;infer_instance
def ValM (m:Msg):Prop:=OkM m∧((raw m).length:Int)≤4096
instance (m:Msg):Decidable (ValM m):=by unfold ValM;infer_instance
theorem m0S {m:Msg}(h:OkM m):(raw m).length≤100000:=by
 have h1:=f0s h.2.2.1
 have h2:=h.2.1.2.2.1
 have h3:=h.2.1.2.2.2
 have h4:=h.2.2.2.2.2
 have h5:(if m.pay= []then []else(255:UInt8)::m.pay).length≤m.pay.length+1:=by split<;>simp
 simp only[raw,f0B,cH,cL,cE]at h5⊢
 omega
theorem h0z (n:Int)(hn: -1152921504606846976≤n∧n≤1152921504606846976):Sp Tryz.prog 182 [.val (.int .i64 n)] [] (Is (.tup [.val (.int .u8 ((u8 (ext n).1).toNat:Int)),roB (ext n).2])):=by
 refine yr Tryz.func182 _ Tryz.ntmps182 (fun w0 R0=> ?_)
 refine zB (zr ?_)
 refine zc ?_
 refine zc (zE (zm (zB (yT (zB (zr ?_))))))
 refine zb ?_
 refine zN ?_
 refine zc (zE (zm ?_))
 refine yk (fun h=> ?_) (fun h=> ?_)<;>(try simp only[wr]at h)
 ·have e:ext n=(n,[]):=by unfold ext;rw[if_pos h]
  refine zB (zr ?_)
  refine zb ?_
  refine yQ ?_
  refine zc ?_
  refine zc (zE (zm (yR ?_)))
  refine xN (y0 ?_)
  refine AQ.g ?_
  refine G.nilRo 3 rfl ?_
  refine AQ.u ?_
  try dsimp only[List.map,List.eraseIdx,cA,cN]
  refine AQ.ret2 rfl rfl rfl nS (⟨by rw[e];rfl,rfl⟩)
 refine zB (zr ?_)
 refine zb ?_
 refine zN ?_
 refine zc (zE (zm ?_))
 refine yk (fun h2=> ?_) (fun h2=> ?_)<;>(try simp only[wr]at h2)
 ·have e:ext n=(13,[u8 (n-13)]):=by unfold ext;rw[if_neg (by omega),if_pos h2]
  refine zB (zr ?_)
  refine zb ?_
  refine yN ?_
  refine yQ ?_
  refine zQ ?_
  intro B1
  refine zc ?_
  refine zc (zE (zm (yR ?_)))
  refine xN (y0 ?_)
  refine AQ.g ?_
  refine G.freezeSl 0 3 rfl rfl ⟨Nat.le_refl _,by unfold maxLen;omega⟩ ?_;refine G.unfull 3 rfl ?_
  refine AQ.u ?_
  try dsimp only[List.map,List.eraseIdx,cA,cN]
  refine AQ.ret2 rfl rfl rfl nS (⟨by rw[e];rfl,rfl⟩)
 have e:ext n=(14,[u8 ((n-269)/256),u8 (n-269)]):=by unfold ext;rw[if_neg (by omega),if_neg (by omega)]
 refine yI (y5 (zm (zB (zr ?_))))
 refine zb ?_
 refine yN ?_
 refine wl (O.shrK 8 256 rfl rfl rfl rfl (by rfl)) ?_
 refine yQ ?_
 refine zb ?_
 refine yN ?_
 refine yQ ?_
 refine zQ ?_
 intro B2
 refine zc ?_
 refine zc (zE (zm (yR ?_)))
 refine AQ.g ?_
 refine G.freezeSl 0 3 rfl rfl ⟨Nat.le_refl _,by unfold maxLen;omega⟩ ?_;refine G.unfull 3 rfl ?_
 refine AQ.u ?_
 try dsimp only[List.map,List.eraseIdx,cA,cN]
 refine AQ.ret2 rfl rfl rfl nS (⟨by rw[e];rfl,rfl⟩)
theorem k0I (m:Msg):Sp Tryz.prog 162 [b0s m] [] (Is (.val (.bool (decide (OkM m))))):=by
 obtain⟨ty,code,id,tok,opts,pay⟩:=m
 refine yr Tryz.func162 _ Tryz.ntmps162 (fun w0 R0=> ?_)
 refine zB (zr ?_)
 refine ya ?_
 intro B1
 refine zc (zE (zm (zB (zr ?_))))
 refine zq ?_
 refine zt ?_
 refine wl (O.shrK 5 32 rfl rfl rfl rfl (by rfl)) ?_
 refine zc (zE (zm (zB (zB (zr ?_)))))
 refine zq ?_
 refine zt ?_
 refine zN ?_
 refine zb ?_
 refine zJ ?_
 refine zl 14 ?_
 refine yb 15 ?_
 refine zF ?_
 refine zb ?_
 refine zJ ?_
 refine zl 19 ?_
 refine AO.opG rfl rfl rfl (fun hp=>wo 20 rfl (by exact hp) yj) ?_
 refine zF ?_
 refine zb ?_
 refine zJ ?_
 refine zl 24 ?_
 refine yb 25 ?_
 refine zF ?_
 refine zb ?_
 refine yl ?_
 refine AO.opG rfl rfl rfl (fun hp=>wo 29 rfl (by exact hp) xb) ?_
 refine xA 30 ?_
 refine yl ?_
 refine AO.opG rfl rfl rfl (fun hp=>wo 32 rfl (by exact hp) xb) ?_
 refine xS 31 ?_
 refine xA 34 ?_
 refine yl ?_
 refine AO.opG rfl rfl rfl (fun hp=>wo 36 rfl (by exact hp) xb) ?_
 refine xS 35 ?_
 refine xA 38 ?_
 refine yl ?_
 refine AO.opG rfl rfl rfl (fun hp=>wo 40 rfl (by exact hp) xb) ?_
 refine xS 39 ?_
 refine zF (zE (zm ?_))
 refine yk (fun h=> ?_) (fun h=> ?_)<;>(try simp only[wr]at h)
 ·have e:decide (OkM ⟨ty,code,id,tok,opts,pay⟩)=false:=by
   refine decide_eq_false fun hk=> ?_
   obtain⟨⟨a1,a2,a3,a4,a5⟩, -⟩:=hk
   simp only[h0p]at*
   omega
  refine zB (zr ?_)
  refine zc (zE (zm (yR (y0 ?_))))
  refine AQ.ret1 rfl rfl nS (⟨congrArg (fun z=>AV.val (.bool z)) e.symm,rfl⟩)
 refine yI (zm (zB (zB (zr ?_))))
 refine zq ?_
 refine zt ?_
 refine zN ?_
 refine zb ?_
 refine zJ ?_
 refine zl 48 ?_
 refine yb 49 ?_
 refine zF ?_
 refine zb ?_
 refine zJ ?_
 refine zl 53 ?_
 refine zX 54 ?_
 refine yb 55 ?_
 refine zF ?_
 refine zb ?_
 refine zJ ?_
 refine zl 59 ?_
 refine zX 60 ?_
 refine yb 61 ?_
 refine zF (zE (zm ?_))
 refine yk (fun h2=> ?_) (fun h2=> ?_)<;>(try simp only[wr]at h2)
 ·have e:decide (OkM ⟨ty,code,id,tok,opts,pay⟩)=false:=by
   refine decide_eq_false fun hk=> ?_
   obtain⟨-,⟨a1,a2,a3,a4⟩, -⟩:=hk
   simp only at*
   omega
  refine zB (zr ?_)
  refine zc (zE (zm (yR (y0 ?_))))
  refine AQ.ret1 rfl rfl nS (⟨congrArg (fun z=>AV.val (.bool z)) e.symm,rfl⟩)
 refine yI (zm (zB (zr ?_)))
 refine zc (zE (zm (zB (zB (zr ?_)))))
 refine zq ?_
 refine zt ?_
 refine zR ?_
 refine zb (zE (zm (yT ?_)))
 refine zh [(1,_),(65,_),(66,_)] (fun nn E H=> ∃(k:Nat),(k≤opts.length)∧(AscO 0 (opts.take k))∧nn=opts.length-k∧E= [(4,.val (.int .i64 (a0J 0 (opts.take k)))),(67,.val (.int .i64 (k:Int)))]∧H= [.blk B1 29 6 [.val (.int .i64 ty),.val (.int .i64 code),.val (.int .i64 id),roB tok,roO opts,roB pay]]) _ (⟨0,by omega,trivial,rfl,rfl,rfl⟩) ?_
 rintro nn E H ⟨k,h1,ha,rfl,rfl,rfl⟩
 dsimp only[cA,cN]
 refine zB (zr ?_)
 refine zN (zE (zm (zB ?_)))
 refine yk (fun h3=> ?_) (fun h3=> ?_)<;>(try simp only[wr]at h3)
 ·have hk:k<opts.length:=by omega
  refine yI (zm (zB (yT (zB (zr ?_)))))
  refine z8 ?_
  refine yY ?_
  refine yJ ?_
  intro B2
  refine zK 0 (zE (zm (zB (zB (zr ?_)))))
  refine zq ?_
  refine zt ?_
  refine zb ?_
  refine zN ?_
  refine zb ?_
  refine zJ ?_
  refine zl 76 ?_
  refine yb 77 ?_
  refine zF ?_
  refine zb ?_
  refine zJ ?_
  refine zl 81 ?_
  refine zX 82 ?_
  refine yb 83 ?_
  refine zF (zE (zm ?_))
  refine yk (fun h4=> ?_) (fun h4=> ?_)<;>(try simp only[wr]at h4)
  ·have e:decide (OkM ⟨ty,code,id,tok,opts,pay⟩)=false:=by
    refine decide_eq_false fun hk'=> ?_
    obtain⟨-, -,a1, -⟩:=hk'
    have:=d0l a1 hk
    simp only at this
    omega
   refine zB (zr ?_)
   refine zc (zE (zm (yR (y0 ?_))))
   refine xN (y0 ?_)
   refine AQ.loopR ?_
   refine xN (y0 ?_)
   refine AQ.ret1 rfl rfl nS (⟨congrArg (fun z=>AV.val (.bool z)) e.symm,rfl⟩)
  have ha2:AscO 0 (opts.take (k+1)):=by
   rw[a0i Opt.none hk,e0z]
   exact⟨ha,h4.1.1,h4.1.2,h4.2⟩
  have hl2:a0J 0 (opts.take (k+1))=(oat opts k).num:=by rw[a0i Opt.none hk,b0m]
  refine yI (zm (zr ?_))
  refine zq ?_
  refine zt ?_
  refine zc (zE (y5 (zm (zr ?_))))
  refine zA ?_
  refine zb (zE ?_)
  refine zH _ _ _ (by omega) (⟨k+1,by omega,ha2,rfl,by rw[hl2],rfl⟩)
 obtain rfl:k=opts.length:=by omega
 rw[List.take_length]at ha
 have hw:(pay.length:Int)≤4096→IntKind.i64.wrap ((tok.length:Int)+opts.length+pay.length)=(tok.length:Int)+opts.length+pay.length:=fun h=>f0U (by omega)
 refine xx ?_
 refine xp ?_
 refine xu ?_
 refine y2 (zm (zB (zB (zr ?_))))
 refine zq ?_
 refine zt ?_
 refine yh ?_
 refine zb ?_
 refine zJ ?_
 refine zl 93 ?_
 refine zX 94 ?_
 refine zJ ?_
 refine zl 96 ?_
 refine zX 97 ?_
 refine AO.opG rfl rfl rfl (fun hp=>wo 95 rfl (by exact hp) (wo 98 rfl (by exact hp) zI)) ?_
 refine zJ ?_
 refine zl 100 ?_
 refine zX 101 ?_
 refine AO.opG rfl rfl rfl (fun hp=>wo 99 rfl (by exact hp) (wo 102 rfl (by exact hp) (O.add rfl rfl rfl (by rfl)))) ?_
 refine yb 103 ?_
 refine zO (zE (zm ?_))
 refine yk (fun h5=> ?_) (fun h5=> ?_)<;>(try simp only[wr]at h5)
 ·have e:decide (OkM ⟨ty,code,id,tok,opts,pay⟩)=false:=by
   refine decide_eq_false fun hk'=> ?_
   obtain⟨-, -, -,a1, -,a2⟩:=hk'
   simp only at a1 a2
   have h6:=h5.2
   rw[hw a2]at h6
   have:=a1 h5.1
   omega
  refine zB (zr ?_)
  refine zc (zE (zm (yR (y0 ?_))))
  refine AQ.ret1 rfl rfl nS (⟨congrArg (fun z=>AV.val (.bool z)) e.symm,rfl⟩)
 refine yI (zm (zB (zr ?_)))
 refine zq ?_
 refine zt ?_
 refine yZ ?_
 refine zb ?_
 refine zJ ?_
 refine zl 110 ?_
 refine yE 111 ?_
 refine zF ?_
 refine zb ?_
 refine zJ ?_
 refine zl 115 ?_
 refine zX 116 ?_
 refine yW 117 ?_
 refine zO ?_
 refine zc (zE (zm (yR ?_)))
 have e:decide (OkM ⟨ty,code,id,tok,opts,pay⟩)=((ty !=3||code==0)&&decide ((pay.length:Int)≤4096)):=by
  refine g0p ?_
  simp only[OkM,Bool.and_eq_true,Bool.or_eq_true,bne_iff_ne,beq_iff_eq,cQ,ne_eq]
  constructor
  ·rintro⟨-, -, -, -,a1,a2⟩
   refine⟨?_,a2⟩
   by_cases h9:ty=3
   ·exact .inr (a1 h9)
   exact .inl h9
  rintro⟨a1,a2⟩
  refine⟨⟨by omega,by omega,by omega,by omega,?_⟩,⟨by omega,by omega,by omega,by omega⟩,ha,?_,?_,a2⟩
  ·unfold h0p;omega
  ·intro h9
   rcases Int.lt_or_le 0 ((tok.length:Int)+opts.length+pay.length)with h|h
   ·exact absurd h (by have:=h5 h9;rw[hw a2]at this;omega)
   exact h
  intro h9
  rcases a1 with a1|a1
  ·exact absurd h9 a1
  exact a1
 refine AQ.ret1 rfl rfl nS (⟨congrArg (fun z=>AV.val (.bool z)) e.symm,rfl⟩)
def b0H (m:Msg)(k:Nat):List UInt8:=f0B m++m.tok++f0S 0 (m.opts.take k)
theorem e0O {m:Msg}{k:Nat}(h:k<m.opts.length):b0H m (k+1)=b0H m k++(hdr ((oat m.opts k).num-a0J 0 (m.opts.take k)) (oat m.opts k).val.length++(oat m.opts k).val):=by
 rw[b0H,a0i Opt.none h,f0Z,b0H];simp
theorem j0A {m:Msg}(h:OkM m)(k:Nat):(b0H m k).length≤12+k*1039:=by
 have h1:=f0s (b0D h.2.2.1 k)
 have h2:=h.2.1.2.2.1
 simp only[b0H,f0B,cH,cL,cE,List.length_take]at h1⊢
 have:min k m.opts.length*1039≤k*1039:=Nat.mul_le_mul_right _ (Nat.min_le_left _ _)
 omega
theorem m0T (m:Msg):raw m=b0H m m.opts.length++(if m.pay= []then []else 255::m.pay):=by rw[raw,b0H,List.take_length]
theorem k0b (m:Msg)(h:OkM m):Sp Tryz.prog 163 [b0s m] [] (Is (roB (raw m))):=by
 have hlen:=fun k=>j0A h k
 obtain⟨⟨a1,a2,a3,a4,a5⟩,⟨a6,a7,a8,a9⟩,a10, -, -,a11⟩:=h
 refine yr Tryz.func163 _ Tryz.ntmps163 (fun w0 R0=> ?_)
 have hd0a:(b0H m 0).length=4+m.tok.length:=by simp[b0H,f0B,f0S];omega
 have hd0b:a0a (b0H m 0)= .val (.int .u8 ((u8 (64+m.ty*16+m.tok.length)).toNat:Int)):: .val (.int .u8 ((u8 m.code).toNat:Int)):: .val (.int .u8 ((u8 (m.id/256)).toNat:Int)):: .val (.int .u8 ((u8 m.id).toNat:Int))::a0a m.tok:=by
  simp only[b0H,f0B,cZ,f0S,cP,a0F]
  simp[a0a,show m.ty*16=16*m.ty by omega]
 refine zB (zr ?_)
 refine ya ?_
 intro B1
 refine zc (zE (zm (zB (zr ?_))))
 refine zq ?_
 refine zt ?_
 refine wl (O.shlK 4 16 rfl rfl rfl rfl (by rfl) (by exact f0U (by omega))) ?_
 refine wl (O.or_ rfl rfl rfl (n0h 6 (m:=64) (by decide) (by omega) (by omega))) ?_
 refine zq ?_
 refine zt ?_
 refine zR ?_
 refine wl (O.or_ rfl rfl rfl (n0h 4 (m:=16) (by decide) (by omega) (by omega))) ?_
 refine yQ ?_
 refine zq ?_
 refine zt ?_
 refine yQ ?_
 refine zq ?_
 refine zt ?_
 refine wl (O.shrK 8 256 rfl rfl rfl rfl (by rfl)) ?_
 refine yQ ?_
 refine zq ?_
 refine zt ?_
 refine yQ ?_
 refine zQ ?_
 intro B2
 refine AO.g ?_
 refine G.closeRow (b:=B2) (n:=4) (cap:=4) 0 rfl rfl rfl (Nat.le_refl _) (by(unfold maxLen;omega)) ?_
 refine AO.u ?_
 dsimp only[List.set]
 refine zc (zE (zm (zB (zr ?_))))
 refine zb ?_
 refine zq ?_
 refine zv ?_
 refine zC 0 ?_
 intro V3 hV3
 refine zc (zE (zm (zB (zr ?_))))
 refine zc (zE (zm (zB (zB (zr ?_)))))
 refine zq ?_
 refine zv ?_
 refine zR ?_
 refine zb (zE (zm (yT ?_)))
 refine zh [(1,_),(36,_),(37,_)] (fun nn E H=> ∃(k:Nat) (V:Value),(k≤m.opts.length)∧(V.oneCell'=true)∧nn=m.opts.length-k∧E= [(3,.val V),(4,.val (.int .i64 (a0J 0 (m.opts.take k)))),(38,.val (.int .i64 (k:Int)))]∧H= [.row V 5 1 (b0H m k).length (a0a (b0H m k)),.blk B1 29 6 [.val (.int .i64 m.ty),.val (.int .i64 m.code),.val (.int .i64 m.id),roB m.tok,roO m.opts,roB m.pay]]) _ (⟨0,V3,by omega,hV3,rfl,rfl,by rw[hd0b,hd0a]⟩) ?_
 rintro nn E H ⟨k,V,h1,hV,rfl,rfl,rfl⟩
 dsimp only[cA,cN]
 have hl0:=hlen k
 refine zB (zr ?_)
 refine zN (zE (zm (zB ?_)))
 refine yk (fun h3=> ?_) (fun h3=> ?_)<;>(try simp only[wr]at h3)
 ·have hk:k<m.opts.length:=by omega
  have hl1:=hlen (k+1)
  have ho:=d0l a10 hk
  have hla:=d0I (b0D a10 k) (by omega)
  have hd1:=c0t ((oat m.opts k).num-a0J 0 (m.opts.take k)) (by omega)
  have hq1:=c0t ((oat m.opts k).val.length:Int) (by omega)
  have hd2:=f0F ((oat m.opts k).num-a0J 0 (m.opts.take k))
  have hq2:=f0F ((oat m.opts k).val.length:Int)
  have hdu:=a0C (x:=(ext ((oat m.opts k).num-a0J 0 (m.opts.take k))).1) (by omega)
  have hqu:=a0C (x:=(ext ((oat m.opts k).val.length:Int)).1) (by omega)
  have hxu:=a0C (x:=16*(ext ((oat m.opts k).num-a0J 0 (m.opts.take k))).1+(ext ((oat m.opts k).val.length:Int)).1) (by omega)
  have hxv:((u8 (16*(ext ((oat m.opts k).num-a0J 0 (m.opts.take k))).1+(ext ((oat m.opts k).val.length:Int)).1)).toNat:Int)=((u8 (ext ((oat m.opts k).num-a0J 0 (m.opts.take k))).1).toNat:Int)*16+((u8 (ext ((oat m.opts k).val.length:Int)).1).toNat:Int):=by omega
  have hlast:a0J 0 (m.opts.take (k+1))=(oat m.opts k).num:=by rw[a0i Opt.none hk,b0m]
  have hsc:a0a (b0H m (k+1))=a0a (b0H m k)++[.val (.int .u8 (((u8 (ext ((oat m.opts k).num-a0J 0 (m.opts.take k))).1).toNat:Int)*16+((u8 (ext ((oat m.opts k).val.length:Int)).1).toNat:Int)))]++a0a (ext ((oat m.opts k).num-a0J 0 (m.opts.take k))).2++a0a (ext ((oat m.opts k).val.length:Int)).2++a0a (oat m.opts k).val:=by
   rw[e0O hk,hdr]
   simp only[a0F,List.append_assoc,cA,a0a,List.map_cons,List.map_nil,cN,List.map_append,hxv]
  have hsl:(b0H m (k+1)).length=(b0H m k).length+1+(ext ((oat m.opts k).num-a0J 0 (m.opts.take k))).2.length+(ext ((oat m.opts k).val.length:Int)).2.length+(oat m.opts k).val.length:=by
   rw[e0O hk,hdr]
   simp only[cH,cL];omega
  refine yI (zm (zB (yT (zB (zr ?_)))))
  refine z8 ?_
  refine yY ?_
  refine zd ?_
  intro B4
  refine za 0 (zE (zm (zB (zr ?_))))
  refine zq ?_
  refine zt ?_
  refine zb ?_
  refine yN ?_
  refine wl (xl rfl Tryz.func182 rfl rfl rfl (h0z _ ⟨by omega,by omega⟩)) ?_
  refine zb ?_
  refine zW ?_
  refine zW ?_
  refine zc ?_
  refine zc (zE (zm (zB (zr ?_))))
  refine zq ?_
  refine zt ?_
  refine zR ?_
  refine wl (xl rfl Tryz.func182 rfl rfl rfl (h0z _ ⟨by omega,by omega⟩)) ?_
  refine zb ?_
  refine zW ?_
  refine zW ?_
  refine zc ?_
  refine zc (zE (zm (zB ?_)))
  refine AW.regionM [(0,false),(1,false),(2,false),(3,false),(4,false),(5,false),(7,false),(9,false),(11,false),(12,false),(6,true),(8,true),(10,true),(13,true),(14,true)] (by kernel_rfl) (by kernel_rfl) (by exact(by exact d0A 3 1 rfl rfl a0D)) ?_
  dsimp only[List.eraseIdx]
  refine xg ?_
  refine xg ?_
  refine wn rfl (O.shlK 4 16 rfl rfl rfl rfl (by rfl) (by exact wU8 (by omega))) ?_
  refine xg ?_
  refine wn rfl (O.or_ rfl rfl rfl (r0c 4 (m:=16) (by decide) (by omega) (by omega))) ?_
  refine xZ ?_
  refine xg ?_
  refine xg ?_
  refine wn rfl zx ?_
  refine wn rfl zg ?_
  refine AM.main _ rfl (fun w0 R0=> ?_)
  refine zw 0 ?_
  intro V5 hV5
  refine AM.ok ?_
  dsimp only[b0d]
  refine AM.main _ rfl (fun w0 R0=> ?_)
  refine zC 0 ?_
  intro V6 hV6
  refine AM.ok ?_
  dsimp only[b0d]
  refine AM.main _ rfl (fun w0 R0=> ?_)
  refine zC 0 ?_
  intro V7 hV7
  refine AM.ok ?_
  dsimp only[b0d]
  refine AM.main _ rfl (fun w0 R0=> ?_)
  refine zC 0 ?_
  intro V8 hV8
  refine AM.ok ?_
  dsimp only[b0d]
  refine AM.main _ rfl (fun w0 R0=> ?_)
  refine zc ?_
  refine AM.ok ?_
  dsimp only[b0d]
  refine AM.nil ?_
  dsimp only[cA,cN]
  refine zm (zr ?_)
  refine zq ?_
  refine zv ?_
  refine zc (zE (y5 (zm (zr ?_))))
  refine zA ?_
  refine zb (zE ?_)
  refine xU _ _ _ (by omega) (⟨k+1,_,by omega,‹_›,rfl,by rw[hlast],by rw[hsc,hsl]⟩)
 obtain rfl:k=m.opts.length:=by omega
 have hre:raw m=b0H m m.opts.length++(if m.pay= []then []else 255::m.pay):=m0T m
 refine xx ?_
 refine xp ?_
 refine xu ?_
 refine y2 (zm (zB (zB (zr ?_))))
 refine zq ?_
 refine zv ?_
 refine zR ?_
 refine yw (zE (zm ?_))
 refine yk (fun h5=> ?_) (fun h5=> ?_)<;>(try simp only[wr]at h5)
 ·rw[if_neg (fun e=>by rw[e]at h5;simp at h5)]at hre
  refine AW.regionM [(0,false),(1,false),(3,false),(4,false),(2,true),(5,true),(6,true)] (by kernel_rfl) (by kernel_rfl) (by exact(by exact d0A 3 0 rfl rfl a0D)) ?_
  dsimp only[List.eraseIdx]
  refine xg ?_
  refine xZ ?_
  refine wn rfl zx ?_
  refine wn rfl zg ?_
  refine AM.main _ rfl (fun w0 R0=> ?_)
  refine zw 0 ?_
  intro V9 hV9
  refine AM.ok ?_
  dsimp only[b0d]
  refine AM.main _ rfl (fun w0 R0=> ?_)
  refine AO.append' (i:=0) rfl rfl rfl rfl (by rfl) (by rfl) rfl rfl rfl (by exact SrcA.ro TyD.ax (by(simp;done)) (lB rfl)) (by(simp[AV.cells,AV.one, *];done)) (by(unfold maxLen;omega)) (by omega) (by(dsimp only[List.set,List.append,cA,cN,a0w,a0v,a0A,a0c,a0n,AV.cells,List.map,List.map_cons,List.map_nil,List.take,List.drop,Nat.zero_add,Nat.add_zero,Nat.reduceAdd,Nat.reduceMul,Nat.zero_mul,Value.cells,List.toList_toArray,a0o,List.replicate,List.flatten,cP];done)) (fun _=>by(dsimp only[List.set];done)) ?_
  intro V10 hV10
  refine AM.ok ?_
  dsimp only[b0d]
  refine AM.main _ rfl (fun w0 R0=> ?_)
  refine zc ?_
  refine AM.ok ?_
  dsimp only[b0d]
  refine AM.nil ?_
  dsimp only[cA,cN]
  refine zm (zB (zr ?_))
  refine zb ?_
  refine zc (zE (zm (yR ?_)))
  refine AQ.g ?_
  refine z9 0 [2] ?_
  refine AQ.u ?_
  try dsimp only[List.map,List.eraseIdx,cA,cN]
  refine AQ.ret1 rfl rfl nS (⟨b0M (by rw[hre];simp only[cH,cL];omega) (by rw[hre];simp[a0a]),rfl⟩)
 rw[if_pos (List.eq_nil_of_length_eq_zero (by omega)),cP]at hre
 refine yI (zm (zB (zr ?_)))
 refine zb ?_
 refine zc (zE (zm (yR ?_)))
 refine AQ.g ?_
 refine z9 0 [2] ?_
 refine AQ.u ?_
 try dsimp only[List.map,List.eraseIdx,cA,cN]
 refine AQ.ret1 rfl rfl nS (⟨by rw[hre];rfl,rfl⟩)
def e0W (m:Msg):List UInt8×Int:=if ValM m then(raw m,0)else([],1)
theorem h0P {m:Msg}(h:ValM m):e0W m=(raw m,0):=if_pos h
theorem h0Q {m:Msg}(h: ¬ValM m):e0W m=([],1):=if_neg h
theorem k0d (m:Msg):Sp Tryz.prog 119 [b0s m] [] (Is (.tup [roB (e0W m).1,.val (.int .i64 (e0W m).2)])):=by
 refine yr Tryz.func119 _ Tryz.ntmps119 (fun w0 R0=> ?_)
 refine zB (zr ?_)
 refine ya ?_
 intro B1
 refine zc ?_
 refine zc (zE (zm (zB (zB (zr ?_)))))
 refine xD ?_
 refine wl (xl rfl Tryz.func162 rfl rfl rfl (k0I m)) ?_
 refine xf (zE (zm ?_))
 refine yk (fun h=> ?_) (fun h=> ?_)<;>(try simp only[wr]at h)
 ·have e:e0W m=([],1):=h0Q fun hv=>h hv.1
  refine zB (zr ?_)
  refine zc ?_
  refine zc (zE (zm (yR (y0 ?_))))
  refine wg yU yy (⟨congrArg (fun z:List UInt8×Int=>AV.tup [roB z.1,.val (.int .i64 z.2)]) e.symm,rfl⟩)
 have hm:OkM m:=h
 have hl:=m0S hm
 refine yI (zm (zB (zr ?_)))
 refine xD ?_
 refine wl (xl rfl Tryz.func163 rfl rfl rfl (k0b m hm)) ?_
 refine zc (zE (zm (zB (zB (zr ?_)))))
 refine zb ?_
 refine zR ?_
 refine yw (zE (zm ?_))
 refine yk (fun h2=> ?_) (fun h2=> ?_)<;>(try simp only[wr]at h2)
 ·have e:e0W m=([],1):=h0Q fun hv=>by have:=hv.2;omega
  refine zB (zr ?_)
  refine zc ?_
  refine zc (zE (zm (yR (y0 ?_))))
  refine wg yU yy (⟨congrArg (fun z:List UInt8×Int=>AV.tup [roB z.1,.val (.int .i64 z.2)]) e.symm,rfl⟩)
 have e:e0W m=(raw m,0):=h0P ⟨hm,by omega⟩
 refine yI (zm (zB (zr ?_)))
 refine zb ?_
 refine zc ?_
 refine zc (zE (zm (yR ?_)))
 refine AQ.ret2 rfl rfl rfl nS (⟨congrArg (fun z:List UInt8×Int=>AV.tup [roB z.1,.val (.int .i64 z.2)]) e.symm,rfl⟩)
theorem f0L (l:List UInt8)(hl:l.length≤140737488355328):Sp Tryz.prog 138 [roB l] [] (Is (roB l)):=by
 refine yr Tryz.func138 _ Tryz.ntmps138 (fun w0 R0=> ?_)
 refine zB (zr ?_)
 refine zc (zE (zm (zB (zB (zr ?_)))))
 refine zb ?_
 refine AO.opN (O.eqlNil rfl rfl rfl) rfl rfl rfl ?_
 rintro _ _ ⟨c,rfl,rfl,hnil⟩
 simp only[cA,cN]
 refine zE (zm ?_)
 refine yk (fun h=> ?_) (fun h=> ?_)
 ·obtain rfl:l= []:=List.eq_nil_of_length_eq_zero (hnil (by simp[h]))
  refine zB (zr ?_)
  refine zc (zE (zm (yR (y0 ?_))))
  refine AQ.g ?_
  refine G.nilRo 2 rfl ?_
  refine AQ.u ?_
  refine yd
 refine yI (zm (zB (zr ?_)))
 refine AO.opRow (O.buildSlice0 rfl) rfl rfl rfl ?_
 intro V hV
 refine zb ?_
 refine zC 0 ?_
 intro V hV
 refine zc (zE (zm (yR ?_)))
 refine AQ.g ?_
 refine yG 0 [2] ?_
 refine AQ.u ?_
 dsimp only[List.map,List.eraseIdx,cA,cN]
 refine AQ.ret1 rfl rfl nS (⟨by simp[roB],rfl⟩)
def SmM (m:Msg):Prop:=m.tok.length≤140737488355328∧m.pay.length≤140737488355328∧m.opts.length≤1000000∧ ∀o∈m.opts,o.val.length≤140737488355328
theorem SmM.at {m:Msg}(h:SmM m){k:Nat}(hk:k<m.opts.length):(oat m.opts k).val.length≤140737488355328:=h.2.2.2 _ (b0u _ hk)
def bsA (vs:List (List UInt8)):List AV:=vs.map roB
def m0P (vs:List (List UInt8)):AV:= .ro false vs.length (bsA vs)
def b0J (os:List Opt)(n:Int):List (List UInt8):=(os.filter fun o=>o.num==n).map Opt.val
theorem e0u (os:List Opt)(o:Opt)(n:Int):b0J (os++[o]) n=if o.num=n then b0J os n++[o.val]else b0J os n:=by
 unfold b0J
 rw[List.filter_append,List.map_append]
 by_cases h:o.num=n<;>simp[h]
theorem d0N (vs:List (List UInt8))(v:List UInt8):bsA (vs++[v])=bsA vs++[roB v]:=by simp[bsA]
@[simp] theorem q0G (vs:List (List UInt8)):(bsA vs).length=vs.length:=by simp[bsA]
abbrev vat (vs:List (List UInt8))(k:Nat):List UInt8:=vs.getD k []
theorem e0o {vs:List (List UInt8)}{k:Nat}(h:k<vs.length){j:Nat}(hj:j=k):(bsA vs)[j]? =some (roB (vat vs k)):=by
 subst hj;simp[bsA,h,vat]
theorem c0P (os:List Opt)(n:Int):(b0J os n).length≤os.length:=by
 unfold b0J;rw[List.length_map];exact List.length_filter_le _ _
theorem p0v (m:Msg)(n:Int)(h3:m.opts.length≤1000000)(hat: ∀o∈m.opts,o.val.length≤140737488355328):Sp Tryz.prog 71 [b0s m,.val (.int .i64 n)] [] (Is (m0P (b0J m.opts n))):=by
 refine yr Tryz.func71 _ Tryz.ntmps71 (fun w0 R0=> ?_)
 refine zB (zr ?_)
 refine ya ?_
 intro B1
 refine zc (zE (zm (zB (zr ?_))))
 refine zc (zE (zm (zB (zB (zr ?_)))))
 refine zq ?_
 refine zt ?_
 refine zR ?_
 refine zb (zE (zm (yT ?_)))
 refine AW.g ?_
 refine G.nilRow 22 1 ?_
 refine AW.u ?_
 refine zh [(1,_),(9,_),(10,_)] (fun nn E H=> ∃(k:Nat) (V:Value),(k≤m.opts.length)∧(V.oneCell'=true)∧nn=m.opts.length-k∧E= [(5,.val V),(11,.val (.int .i64 (k:Int)))]∧H= [.row V 22 1 (b0J (m.opts.take k) n).length (bsA (b0J (m.opts.take k) n)),.blk B1 29 6 [.val (.int .i64 m.ty),.val (.int .i64 m.code),.val (.int .i64 m.id),roB m.tok,roO m.opts,roB m.pay]]) _ (⟨0,_,by omega,rfl,rfl,rfl,rfl⟩) ?_
 rintro nn E H ⟨k,V,h4,hV,rfl,rfl,rfl⟩
 dsimp only[cA,cN]
 have hl:=c0P (m.opts.take k) n
 rw[List.length_take]at hl
 refine zB (zr ?_)
 refine zN (zE (zm (zB ?_)))
 refine yk (fun h5=> ?_) (fun h5=> ?_)<;>(try simp only[wr]at h5)
 ·have hk:k<m.opts.length:=by omega
  have hv:(oat m.opts k).val.length≤140737488355328:=hat _ (b0u Opt.none hk)
  have hsc:=e0u (m.opts.take k) (oat m.opts k) n
  rw[←a0i Opt.none hk]at hsc
  refine yI (zm (zB (yT (zB (zr ?_)))))
  refine z8 ?_
  refine yY ?_
  refine zd ?_
  intro B2
  refine za 0 (zE (zm (zB (zr ?_))))
  refine zq ?_
  refine zt ?_
  refine zb ?_
  refine yh (zE (zm ?_))
  refine yk (fun h6=> ?_) (fun h6=> ?_)<;>(try simp only[wr]at h6)
  ·rw[if_pos h6]at hsc
   refine zr ?_
   refine zb ?_
   refine zq ?_
   refine zt ?_
   refine yf ?_
   intro V3 hV3
   refine AO.g ?_
   refine yG 0 [22] ?_
   refine AO.u ?_
   dsimp only[List.map,List.eraseIdx,cA,cN]
   refine zQ ?_
   intro B4
   refine AO.g ?_
   refine z6 0 23 ?_
   refine xz 23 ?_
   refine AO.u ?_
   dsimp only[List.eraseIdx]
   refine zw 1 ?_
   intro V5 hV5
   refine zc (zE (y5 (zm (zr ?_))))
   refine zA ?_
   refine zb (zE ?_)
   refine zH _ _ _ (by omega) (⟨k+1,_,by omega,‹_›,rfl,rfl,by rw[hsc,d0N,cH]⟩)
  rw[if_neg h6]at hsc
  refine yI (y5 (zm (zr ?_)))
  refine zA ?_
  refine zb (zE ?_)
  refine zH _ _ _ (by omega) (⟨k+1,_,by omega,hV,rfl,rfl,by rw[hsc]⟩)
 obtain rfl:k=m.opts.length:=by omega
 rw[List.take_length]
 refine AW.g ?_
 refine z9 0 [5] ?_
 refine AW.u ?_
 try dsimp only[List.map,List.eraseIdx,cA,cN]
 refine xx ?_
 refine xp ?_
 refine xu ?_
 refine y2 (zm (zB (zr ?_)))
 refine zb ?_
 refine zc (zE (zm (yR ?_)))
 refine yd
theorem n0N (m:Msg)(n:Int)(h3:m.opts.length≤1000000)(hat: ∀o∈m.opts,o.val.length≤140737488355328):Sp Tryz.prog 71 [b0s m,.val (.int .i64 n)] [] (b0q 22 1 (b0J m.opts n).length (bsA (b0J m.opts n))):=by
 refine yr Tryz.func71 _ Tryz.ntmps71 (fun w0 R0=> ?_)
 refine zB (zr ?_)
 refine ya ?_
 intro B1
 refine zc (zE (zm (zB (zr ?_))))
 refine zc (zE (zm (zB (zB (zr ?_)))))
 refine zq ?_
 refine zt ?_
 refine zR ?_
 refine zb (zE (zm (yT ?_)))
 refine AW.g ?_
 refine G.nilRow 22 1 ?_
 refine AW.u ?_
 refine zh [(1,_),(9,_),(10,_)] (fun nn E H=> ∃(k:Nat) (V:Value),(k≤m.opts.length)∧(V.oneCell'=true)∧nn=m.opts.length-k∧E= [(5,.val V),(11,.val (.int .i64 (k:Int)))]∧H= [.row V 22 1 (b0J (m.opts.take k) n).length (bsA (b0J (m.opts.take k) n)),.blk B1 29 6 [.val (.int .i64 m.ty),.val (.int .i64 m.code),.val (.int .i64 m.id),roB m.tok,roO m.opts,roB m.pay]]) _ (⟨0,_,by omega,rfl,rfl,rfl,rfl⟩) ?_
 rintro nn E H ⟨k,V,h4,hV,rfl,rfl,rfl⟩
 dsimp only[cA,cN]
 have hl:=c0P (m.opts.take k) n
 rw[List.length_take]at hl
 refine zB (zr ?_)
 refine zN (zE (zm (zB ?_)))
 refine yk (fun h5=> ?_) (fun h5=> ?_)<;>(try simp only[wr]at h5)
 ·have hk:k<m.opts.length:=by omega
  have hv:(oat m.opts k).val.length≤140737488355328:=hat _ (b0u Opt.none hk)
  have hsc:=e0u (m.opts.take k) (oat m.opts k) n
  rw[←a0i Opt.none hk]at hsc
  refine yI (zm (zB (yT (zB (zr ?_)))))
  refine z8 ?_
  refine yY ?_
  refine zd ?_
  intro B2
  refine za 0 (zE (zm (zB (zr ?_))))
  refine zq ?_
  refine zt ?_
  refine zb ?_
  refine yh (zE (zm ?_))
  refine yk (fun h6=> ?_) (fun h6=> ?_)<;>(try simp only[wr]at h6)
  ·rw[if_pos h6]at hsc
   refine zr ?_
   refine zb ?_
   refine zq ?_
   refine zt ?_
   refine yf ?_
   intro V3 hV3
   refine AO.g ?_
   refine yG 0 [22] ?_
   refine AO.u ?_
   dsimp only[List.map,List.eraseIdx,cA,cN]
   refine zQ ?_
   intro B4
   refine AO.g ?_
   refine z6 0 23 ?_
   refine xz 23 ?_
   refine AO.u ?_
   dsimp only[List.eraseIdx]
   refine zw 1 ?_
   intro V5 hV5
   refine zc (zE (y5 (zm (zr ?_))))
   refine zA ?_
   refine zb (zE ?_)
   refine zH _ _ _ (by omega) (⟨k+1,_,by omega,‹_›,rfl,rfl,by rw[hsc,d0N,cH]⟩)
  rw[if_neg h6]at hsc
  refine yI (y5 (zm (zr ?_)))
  refine zA ?_
  refine zb (zE ?_)
  refine zH _ _ _ (by omega) (⟨k+1,_,by omega,hV,rfl,rfl,by rw[hsc]⟩)
 obtain rfl:k=m.opts.length:=by omega
 rw[List.take_length]
 refine xx ?_
 refine xp ?_
 refine xu ?_
 refine y2 (zm (zB (zr ?_)))
 refine zb ?_
 refine zc (zE (zm (yR ?_)))
 refine AQ.ret1 rfl rfl ⟨_,by repeat(first|exact List.Sublist.slnil|refine List.Sublist.cons_cons _ ?_|refine List.Sublist.cons _ ?_),List.Perm.refl _⟩ (⟨_,rfl,hV,rfl⟩)
theorem m0w (m:Msg)(os:List Opt)(h1:m.tok.length≤140737488355328)(h2:m.pay.length≤140737488355328)(h3:os.length≤1000000)(hat: ∀o∈os,o.val.length≤140737488355328):
  Sp Tryz.prog 75 [b0s m,roO os] [] (Is (b0s ⟨m.ty,m.code,m.id,m.tok,os,m.pay⟩)):=by
 refine yr Tryz.func75 _ Tryz.ntmps75 (fun w0 R0=> ?_)
 refine zB (zr ?_)
 refine ya ?_
 intro B1
 refine zd ?_
 intro B2
 refine zE (zm (zB ?_))
 refine yv 7 ?_
 simp only[cT,cZ,cD,cO]
 refine yC ?_
 refine zY ?_
 refine FA.opN zU rfl rfl rfl rfl ?_
 refine yC ?_
 refine zY ?_
 refine FA.opN zU rfl rfl rfl rfl ?_
 refine yC ?_
 refine wh ?_
 simp only[a0l,cN,cA,cP]
 rintro _ _ ⟨V3,rfl,hV3,rfl⟩
 rintro _ _ ⟨V4,rfl,hV4,rfl⟩
 simp only[cA,cN]
 refine AO.g ?_
 refine yG 1 [10] ?_
 refine AO.u ?_
 dsimp only[List.map,List.eraseIdx,cA,cN]
 refine AO.g ?_
 refine yG 0 [13] ?_
 refine AO.u ?_
 dsimp only[List.map,List.eraseIdx,cA,cN]
 refine za 1 ?_
 refine zq ?_
 refine za 1 (zE (zm (zB (zr ?_))))
 refine zc (zE (zm (zB (zB (zr ?_)))))
 refine zb ?_
 refine zR ?_
 refine zb (zE (zm (yT ?_)))
 refine AW.g ?_
 refine G.nilRow 96 2 ?_
 refine AW.u ?_
 refine zh [(2,_),(4,_),(16,_),(17,_)] (fun nn E H=> ∃(k:Nat) (V:Value),(k≤os.length)∧(V.oneCell'=true)∧nn=os.length-k∧E= [(5,.val V),(18,.val (.int .i64 (k:Int)))]∧H= [.row V 96 2 k (a0L (os.take k)),.blk B2 29 6 [.val (.int .i64 0),.val (.int .i64 0),.val (.int .i64 0),.val (.slice none 0 0),.val (.slice none 0 0),.val (.slice none 0 0)],.blk B1 29 6 [.val (.int .i64 m.ty),.val (.int .i64 m.code),.val (.int .i64 m.id),roB m.tok,roO m.opts,roB m.pay]]) _ (⟨0,_,by omega,rfl,rfl,rfl,rfl⟩) ?_
 rintro nn E H ⟨k,V,h4,hV,rfl,rfl,rfl⟩
 dsimp only[cA,cN]
 refine zB (zr ?_)
 refine zN (zE (zm (zB ?_)))
 refine yk (fun h5=> ?_) (fun h5=> ?_)<;>(try simp only[wr]at h5)
 ·have hk:k<os.length:=by omega
  have hv:(oat os k).val.length≤140737488355328:=hat _ (b0u Opt.none hk)
  have hsc:a0L (os.take (k+1))=a0L (os.take k)++[.val (.int .i64 (oat os k).num),roB (oat os k).val]:=by rw[a0i Opt.none hk,a0E]
  refine yI (zm (zB (yT (zB (zr ?_)))))
  refine z8 ?_
  refine yY ?_
  refine zd ?_
  intro B5
  refine za 0 (zE (zm ?_))
  refine AW.regionM [(0,false),(1,false),(2,false),(3,false),(4,false),(5,true),(6,false),(7,false),(8,true),(9,true)] (by kernel_rfl) (by kernel_rfl) (by exact(by exact d0A 5 1 rfl rfl a0D)) ?_
  dsimp only[List.eraseIdx]
  refine xg ?_
  refine wn rfl zx ?_
  refine wn rfl zg ?_
  refine wn rfl zx ?_
  refine wn rfl zg ?_
  refine AM.main _ rfl (fun w0 R0=> ?_)
  refine yf ?_
  intro V6 hV6
  refine AO.g ?_
  refine yG 0 [27] ?_
  refine AO.u ?_
  dsimp only[List.map,List.eraseIdx,cA,cN]
  refine AM.ok ?_
  dsimp only[b0d]
  refine wn rfl yi ?_
  refine xZ ?_
  refine AM.main _ rfl (fun w0 R0=> ?_)
  refine zw 0 ?_
  intro V7 hV7
  refine AM.ok ?_
  dsimp only[b0d]
  refine AM.main _ rfl (fun w0 R0=> ?_)
  refine zc ?_
  refine AM.ok ?_
  dsimp only[b0d]
  refine AM.nil ?_
  dsimp only[cA,cN]
  refine y5 (zm (zr ?_))
  refine zA ?_
  refine zb (zE ?_)
  refine xU _ _ _ (by omega) (⟨k+1,_,by omega,‹_›,rfl,rfl,by rw[hsc]⟩)
 obtain rfl:k=os.length:=by omega
 rw[List.take_length]
 refine AW.g ?_
 refine z9 0 [5] ?_
 refine AW.u ?_
 try dsimp only[List.map,List.eraseIdx,cA,cN]
 refine xx ?_
 refine xp ?_
 refine xu ?_
 refine y2 (zm (zB (zr ?_)))
 refine zb ?_
 refine zq ?_
 refine za 1 (zE (zm (zB (zr ?_))))
 refine zD ?_
 refine za 0 (zE (zm (yR ?_)))
 refine AQ.retCell rfl rfl (by repeat(exact List.Mem.head _)) (by(dsimp only[List.set,cA,cN,List.take,List.drop];rfl)) rfl nS (⟨rfl,rfl⟩)
theorem p0B {kid:List UInt8}{piv:Int}(h:7<kid.length):i0T kid piv=([],1):=if_pos h
theorem p0A {kid:List UInt8}{piv:Int}(h: ¬7<kid.length)(h2:piv<0∨1099511627775<piv):i0T kid piv=([],8):=(if_neg h).trans (if_pos h2)
theorem p0z {kid:List UInt8}{piv:Int}(h: ¬7<kid.length)(h2: ¬(piv<0∨1099511627775<piv)):i0T kid piv=(p0M kid (b0O piv),0):=(if_neg h).trans (if_neg h2)
theorem d0y (k n:Int)(hk:0≤k∧k≤7)(hn:0≤n∧n<24):Sp Tryz.prog 151 [.val (.int .u8 k),.val (.int .u64 n)] [] (b0q 5 1 1 (a0a [u8 (32*k+n)])):=by
 have e:k*32+n=((u8 (32*k+n)).toNat:Int):=by rw[a0C (by omega)];omega
 have e2:a0c (a0o 1 (Value.int IntKind.u8 0)) (0*1) (AV.val (Value.int IntKind.u8 (k*32+n))).cells=a0a [u8 (32*k+n)]:=by
  show [AV.val (.int .u8 (k*32+n))]= [AV.val (.int .u8 ((u8 (32*k+n)).toNat:Int))]
  rw[←e]
 refine yr Tryz.func151 _ Tryz.ntmps151 (fun w0 R0=> ?_)
 refine zB (zr ?_)
 refine zc (zE (zm (zB (zr ?_))))
 refine zb ?_
 refine wl (O.shlK 5 32 rfl rfl rfl rfl (by rfl) (by exact wU8 (by omega))) ?_
 refine zc (zE (zm (zB (yT (zB (zr ?_))))))
 refine zb ?_
 refine wl (O.lss rfl rfl rfl (by exact n0J (by omega))) ?_
 refine zc (zE (zm ?_))
 refine AW.condT rfl (zB (zr ?_))
 refine zb ?_
 refine zb ?_
 refine wl (O.conv rfl rfl (by exact wU8 (by omega))) ?_
 refine wl (O.or_ rfl rfl rfl (r0c 5 (m:=32) (by decide) (by omega) (by omega))) ?_
 refine zQ ?_
 intro B1
 refine zc (zE (zm (yR ?_)))
 refine xN (y0 ?_)
 refine AQ.g ?_
 refine G.closeRow (n:=1) (cap:=1) 0 rfl rfl rfl (Nat.le_refl _) (by(unfold maxLen;omega)) ?_
 refine AQ.u ?_
 dsimp only[List.set]
 rw[e2]
 refine AQ.ret1 rfl rfl ⟨_,by repeat(first|exact List.Sublist.slnil|refine List.Sublist.cons_cons _ ?_),List.Perm.refl _⟩ (⟨_,rfl,rfl,rfl⟩)
theorem i0W (n:Nat)(hn:n<24):Sp Tryz.prog 110 [.val (.int .i64 (n:Int))] [] (Is (roB (d0G n))):=by
 rw[d0G,a0Y hn,show UInt8.ofNat (32*0+n)=u8 (32*0+(n:Int)) by rw[show 32*0+(n:Int)=((32*0+n:Nat):Int) by omega,c0U]]
 refine yr Tryz.func110 _ Tryz.ntmps110 (fun w0 R0=> ?_)
 refine zB (zr ?_)
 refine zc (zE (zm (zB (zB (zr ?_)))))
 refine zb ?_
 refine wl (O.lss rfl rfl rfl (by exact g0x (by omega))) (zE (zm ?_))
 refine AW.condF rfl (yI (zm (zB (zr ?_))))
 refine zb ?_
 refine xv ?_
 refine AO.opRow (xl rfl Tryz.func151 rfl rfl rfl (d0y _ _ ⟨by omega,by omega⟩ ⟨by omega,by omega⟩)) rfl rfl rfl ?_
 intro V1 hV1
 refine zc (zE (zm (yR ?_)))
 refine AQ.g ?_
 refine z9 0 [2] ?_
 refine AQ.u ?_
 try dsimp only[List.map,List.eraseIdx,cA,cN]
 refine yd
theorem d0O (b:List UInt8)(hb:b.length<24):Sp Tryz.prog 111 [roB b] [] (Is (roB (b0P b))):=by
 have e1:a0a [u8 (32*2+(b.length:Int))]++a0a b=a0a (b0P b):=by
  rw[b0P,a0Y hb,show u8 (32*2+(b.length:Int))=UInt8.ofNat (32*2+b.length) by rw[show 32*2+(b.length:Int)=((32*2+b.length:Nat):Int) by omega,c0U]];rfl
 have e2:1+b.length=(b0P b).length:=by rw[b0P,a0Y hb,cH];rfl
 refine yr Tryz.func111 _ Tryz.ntmps111 (fun w0 R0=> ?_)
 refine zB (zr ?_)
 refine zc (zE (zm (zB (zr ?_))))
 refine zb ?_
 refine zR ?_
 refine xv ?_
 refine AO.opRow (xl rfl Tryz.func151 rfl rfl rfl (d0y _ _ ⟨by omega,by omega⟩ ⟨by omega,by omega⟩)) rfl rfl rfl ?_
 intro V1 hV1
 refine zb ?_
 refine zC 0 ?_
 intro V2 hV2
 refine zc (zE (zm (yR ?_)))
 rw[e1,e2]
 refine AQ.g ?_
 refine z9 0 [2] ?_
 refine AQ.u ?_
 try dsimp only[List.map,List.eraseIdx,cA,cN]
 refine yd
theorem m0v:Sp Tryz.prog 113 [.val (.string ⟨#[69,110,99,114,121,112,116,48]⟩)] [] (Is (roB (i0g k0f))):=by
 have e1:a0a [u8 (32*3+8)]++a0a k0f=a0a (i0g k0f):=rfl
 have z1:(⟨#[69,110,99,114,121,112,116,48]⟩:ByteArray).size=8:=rfl
 have z2:(⟨#[69,110,99,114,121,112,116,48]⟩:ByteArray).data.toList.length=8:=rfl
 have z3:(⟨#[69,110,99,114,121,112,116,48]⟩:ByteArray).toList.length=8:=by decide +kernel
 refine yr Tryz.func113 _ Tryz.ntmps113 (fun w0 R0=> ?_)
 refine zB (zr ?_)
 refine zc (zE (zm (zB (zr ?_))))
 refine zb ?_
 refine wl (O.lenS rfl rfl) ?_
 refine xv ?_
 refine AO.opRow (xl rfl Tryz.func151 rfl rfl rfl (d0y 3 8 ⟨by omega,by omega⟩ ⟨by omega,by omega⟩)) rfl rfl rfl ?_
 intro V1 hV1
 refine zb ?_
 refine AO.append' (i:=0) rfl rfl rfl rfl (by rfl) (by rfl) rfl rfl rfl (by exact SrcA.str TyD.ax (by rfl)) (by rfl) (by(unfold maxLen;omega)) (by omega) (by(dsimp only[List.set,cA,cN,List.take,List.drop];done)) (fun _=>by(dsimp only[List.set];done)) ?_
 intro V2 hV2
 refine zc (zE (zm (yR ?_)))
 rw[show a0a [u8 (32*3+8)]++List.map AV.val (byteCells ⟨#[69,110,99,114,121,112,116,48]⟩)=a0a (i0g k0f) by kernel_rfl,show 1+(⟨#[69,110,99,114,121,112,116,48]⟩:ByteArray).size=(i0g k0f).length by rfl]
 refine AQ.g ?_
 refine z9 0 [2] ?_
 refine AQ.u ?_
 try dsimp only[List.map,List.eraseIdx,cA,cN]
 refine yd
theorem c0J (l:List (List UInt8))(k:Nat):(l.take k).flatten.length≤l.flatten.length:=by
 conv=>rhs;rw[←List.take_append_drop k l]
 rw[List.flatten_append,cH];omega
theorem e0f (l:List (List UInt8)){k:Nat}(h:k<l.length):(l.take (k+1)).flatten=(l.take k).flatten++vat l k:=by
 rw[a0i [] h,List.flatten_append];simp[vat]
theorem g0D (l:List (List UInt8))(hl:l.length<24)(hf:l.flatten.length≤100000):Sp Tryz.prog 109 [m0P l] [] (Is (roB (f0f l))):=by
 have ea:f0f l=u8 (32*4+(l.length:Int))::l.flatten:=by
  rw[f0f,a0Y hl,show u8 (32*4+(l.length:Int))=UInt8.ofNat (32*4+l.length) by rw[show 32*4+(l.length:Int)=((32*4+l.length:Nat):Int) by omega,c0U]];rfl
 rw[ea]
 refine yr Tryz.func109 _ Tryz.ntmps109 (fun w0 R0=> ?_)
 refine zB (zr ?_)
 refine zc (zE (zm (zB (zr ?_))))
 refine zb ?_
 refine zR ?_
 refine xv ?_
 refine AO.opRow (xl rfl Tryz.func151 rfl rfl rfl (d0y _ _ ⟨by omega,by omega⟩ ⟨by omega,by omega⟩)) rfl rfl rfl ?_
 intro V1 hV1
 refine zc (zE (zm (zB (zB (zr ?_)))))
 refine zb ?_
 refine zR ?_
 refine zb (zE (zm (yT ?_)))
 obtain⟨h0,hh0⟩: ∃h0,h0=u8 (32*4+(l.length:Int)):=⟨_,rfl⟩
 rw[←hh0]
 refine zh [(10,_),(11,_)] (fun nn E H=> ∃(k:Nat) (V:Value) (o:List UInt8),(k≤l.length)∧(V.oneCell'=true)∧(o=h0::(l.take k).flatten)∧nn=l.length-k∧E= [(3,.val V),(12,.val (.int .i64 (k:Int)))]∧H= [.row V 5 1 o.length (a0a o)]) _ (⟨0,_,[h0],by omega,‹_›,rfl,rfl,rfl,rfl⟩) ?_
 rintro nn E H ⟨k,V,o,hk,hV,ho,rfl,rfl,rfl⟩
 dsimp only[cA,cN]
 have hol:o.length=1+(l.take k).flatten.length:=by rw[ho,cL];omega
 have hkl:=c0J l k
 refine zB (zr ?_)
 refine zN (zE (zm (zB ?_)))
 refine yk (fun hlt=> ?_) (fun hlt=> ?_)<;>(try simp only[wr]at hlt)
 ·have hs:=e0f l (k:=k) (by omega)
  have hkl2:=c0J l (k+1)
  rw[hs,cH]at hkl2
  refine yI (zm (zB (yT (zB (zr ?_)))))
  refine z8 ?_
  refine wl (O.loadR rfl rfl (by exact e0o (k:=k) (by omega) (by omega))) ?_
  refine zc (zE (zm (zr ?_)))
  refine zb ?_
  refine zb ?_
  refine zC 0 ?_
  intro V2 hV2
  refine zc (zE (y5 (zm (zr ?_))))
  refine zA ?_
  refine zb (zE ?_)
  rw[show a0a o++a0a (vat l k)=a0a (o++vat l k)from(a0F _ _).symm,show o.length+(vat l k).length=(o++vat l k).length from List.length_append.symm]
  refine zn _ _ _ (by omega) (⟨k+1,_,o++vat l k,by omega,‹_›,by rw[ho,hs];rfl,rfl,rfl,rfl⟩)
 obtain rfl:k=l.length:=by omega
 rw[List.take_length]at ho
 subst ho
 refine xx ?_
 refine xp ?_
 refine xu ?_
 refine y2 (zm (zB (zr ?_)))
 refine zb ?_
 refine zc (zE (zm (yR ?_)))
 refine AQ.g ?_
 refine z9 0 [2] ?_
 refine AQ.u ?_
 try dsimp only[List.map,List.eraseIdx,cA,cN]
 refine yd
theorem n0H (kid:List UInt8)(piv:Int):Sp Tryz.prog 60 [roB kid,.val (.int .i64 piv)] [] (Is (o0v (i0T kid piv))):=by
 refine yr Tryz.func60 _ Tryz.ntmps60 (fun w0 R0=> ?_)
 refine zB (zr ?_)
 refine zc ?_
 refine zc (zE (zm (zB (zB (zr ?_)))))
 refine zb ?_
 refine zR ?_
 refine yw (zE (zm ?_))
 refine yk (fun h1=> ?_) (fun h1=> ?_)<;>(try simp only[wr]at h1)
 ·rw[p0B (by omega)]
  refine zB (zr ?_)
  refine zc ?_
  refine zc (zE (zm (yR (y0 ?_))))
  refine wg yU yy (⟨rfl,rfl⟩)
 have hk:kid.length≤7:=by omega
 refine yI (zm (zB (zB (zr ?_))))
 refine zb ?_
 refine zN ?_
 refine zb ?_
 refine yl ?_
 refine yb 14 ?_
 refine zF (zE (zm ?_))
 refine yk (fun h2=> ?_) (fun h2=> ?_)<;>(try simp only[wr]at h2)
 ·rw[p0A (by omega) (by omega)]
  refine zB (zr ?_)
  refine zc ?_
  refine zc (zE (zm (yR (y0 ?_))))
  refine wg yU yy (⟨rfl,rfl⟩)
 rw[p0z (by omega) (by omega)]
 have hpl:=c0e piv
 have hxl:=i0a hk hpl
 have hsl: ∀b:List UInt8,b.length<24→(b0P b).length=1+b.length:=fun b h=>by rw[b0P,a0Y h,cH];rfl
 have ha1:Sp Tryz.prog 109 [.ro false 1 [roB (d0G 10)]] [] (Is (roB (f0f [d0G 10]))):=g0D [d0G 10] (by simp) (by decide)
 have ha5:Sp Tryz.prog 109 [.ro false 5 [roB (d0G 1),roB (f0f [d0G 10]),roB (b0P kid),roB (b0P (b0O piv)),roB (b0P [])]] [] (Is (roB (l0H kid (b0O piv)))):=g0D [d0G 1,f0f [d0G 10],b0P kid,b0P (b0O piv),b0P []] (by simp) (by
  have h1:=hsl kid (by omega)
  have h2:=hsl (b0O piv) (by omega)
  have h3:=hsl [] (by simp)
  have h4:(d0G 1).length=1:=rfl
  have h5:(f0f [d0G 10]).length=2:=rfl
  simp only[List.flatten_cons,List.flatten_nil,cP,cH,cE]at h3⊢;omega)
 have ha3:Sp Tryz.prog 109 [.ro false 3 [roB (i0g k0f),roB (b0P []),roB (b0P (l0H kid (b0O piv)))]] [] (Is (roB (p0M kid (b0O piv)))):=g0D [i0g k0f,b0P [],b0P (l0H kid (b0O piv))] (by simp) (by
  have h1:=hsl _ hxl
  have h3:=hsl [] (by simp)
  have h4:(i0g k0f).length=9:=rfl
  simp only[List.flatten_cons,List.flatten_nil,cP,cH,cE]at h3⊢;omega)
 generalize l0H kid (b0O piv)=x at*
 generalize p0M kid (b0O piv)=y at*
 generalize f0f [d0G 10]=z at*
 refine yI (zm (zB (zr ?_)))
 refine wl (xl rfl Tryz.func110 rfl rfl rfl (i0W 10 (by omega))) ?_
 refine zQ ?_
 intro B1
 refine AO.g ?_
 refine z6 0 18 ?_
 refine xz 18 ?_
 refine AO.u ?_
 dsimp only[List.eraseIdx]
 refine wl (xl rfl Tryz.func109 rfl rfl rfl ha1) ?_
 refine zc (zE (zm (zB (zr ?_))))
 refine wl (xl rfl Tryz.func110 rfl rfl rfl (i0W 1 (by omega))) ?_
 refine zb ?_
 refine zb ?_
 refine wl (xl rfl Tryz.func111 rfl rfl rfl (d0O _ (by omega))) ?_
 refine zb ?_
 refine wl (xl rfl Tryz.func112 rfl rfl rfl (h0U _)) ?_
 refine wl (xl rfl Tryz.func111 rfl rfl rfl (d0O _ (by omega))) ?_
 refine wl (O.callC rfl Tryz.func111 rfl rfl rfl (d0O [] (by simp)) (by(repeat(first|exact CoeL.nil|refine CoeL.cons Coe.nil ?_));done)) ?_
 refine yF ?_
 intro B2
 refine AO.g ?_
 refine z6 0 28 ?_
 refine xz 28 ?_
 refine AO.u ?_
 dsimp only[List.eraseIdx]
 refine wl (xl rfl Tryz.func109 rfl rfl rfl ha5) ?_
 refine zc (zE (zm (zB (zr ?_))))
 refine wl (xl rfl Tryz.func113 rfl rfl rfl m0v) ?_
 refine wl (O.callC rfl Tryz.func111 rfl rfl rfl (d0O [] (by simp)) (by(repeat(first|exact CoeL.nil|refine CoeL.cons Coe.nil ?_));done)) ?_
 refine zb ?_
 refine wl (xl rfl Tryz.func111 rfl rfl rfl (d0O _ (by omega))) ?_
 refine yF ?_
 intro B3
 refine AO.g ?_
 refine z6 0 34 ?_
 refine xz 34 ?_
 refine AO.u ?_
 dsimp only[List.eraseIdx]
 refine wl (xl rfl Tryz.func109 rfl rfl rfl ha3) ?_
 refine zc ?_
 refine zc (zE (zm (yR ?_)))
 refine yP
theorem p0R (a:UInt8):Go.bits .xor .u8 (a.toNat:Int) 54=((a^^^54).toNat:Int):=c0Q (p:=fun a=>Go.bits .xor .u8 (a.toNat:Int) 54=((a^^^54).toNat:Int)) (by decide +kernel) a
theorem p0Q (a:UInt8):Go.bits .xor .u8 (a.toNat:Int) 92=((a^^^92).toNat:Int):=c0Q (p:=fun a=>Go.bits .xor .u8 (a.toNat:Int) 92=((a^^^92).toNat:Int)) (by decide +kernel) a
theorem d0t (l:List (List UInt8))(k:Nat):(l.take k).flatten.length≤l.flatten.length:=by
 conv=>rhs;rw[←List.take_append_drop k l]
 rw[List.flatten_append,cH];omega
theorem e0D (l:List (List UInt8)){k:Nat}(h:k<l.length):(l.take (k+1)).flatten=(l.take k).flatten++vat l k:=by
 rw[a0i [] h,List.flatten_append];simp[vat]
theorem l0l (l:List (List UInt8))(hl:l.length≤1000000)(hf:l.flatten.length≤1000000):Sp Tryz.prog 150 [m0P l] [] (Is (roB l.flatten)):=by
 refine yr Tryz.func150 _ Tryz.ntmps150 (fun w0 R0=> ?_)
 refine zB (zr ?_)
 refine zc (zE (zm (zB (zr ?_))))
 refine zc (zE (zm (zB (zB (zr ?_)))))
 refine zb ?_
 refine zR ?_
 refine zb (zE (zm (yT ?_)))
 refine AW.g ?_
 refine G.nilRow 5 1 ?_
 refine AW.u ?_
 refine zh [(6,_),(7,_)] (fun nn E H=> ∃(k:Nat) (V:Value),(k≤l.length)∧(V.oneCell'=true)∧nn=l.length-k∧E= [(3,.val V),(8,.val (.int .i64 (k:Int)))]∧H= [.row V 5 1 (l.take k).flatten.length (a0a (l.take k).flatten)]) _ (⟨0,_,by omega,rfl,rfl,rfl,rfl⟩) ?_
 rintro nn E H ⟨k,V,hk,hV,rfl,rfl,rfl⟩
 dsimp only[cA,cN]
 have hkl:=d0t l k
 refine zB (zr ?_)
 refine zN (zE (zm (zB ?_)))
 refine yk (fun hlt=> ?_) (fun hlt=> ?_)<;>(try simp only[wr]at hlt)
 ·have hs:=e0D l (k:=k) (by omega)
  have hkl2:=d0t l (k+1)
  rw[hs,cH]at hkl2
  refine yI (zm (zB (yT (zB (zr ?_)))))
  refine z8 ?_
  refine wl (O.loadR rfl rfl (by exact e0o (k:=k) (by omega) (by omega))) ?_
  refine zc (zE (zm (zr ?_)))
  refine zb ?_
  refine zb ?_
  refine zC 0 ?_
  intro V1 hV1
  refine zc (zE (y5 (zm (zr ?_))))
  refine zA ?_
  refine zb (zE ?_)
  rw[show a0a (l.take k).flatten++a0a (vat l k)=a0a (l.take (k+1)).flatten by rw[hs,a0F],show(l.take k).flatten.length+(vat l k).length=(l.take (k+1)).flatten.length by rw[hs,cH]]
  refine zn _ _ _ (by omega) (⟨k+1,_,by omega,‹_›,rfl,rfl,rfl⟩)
 obtain rfl:k=l.length:=by omega
 rw[List.take_length]
 refine xx ?_
 refine xp ?_
 refine xu ?_
 refine y2 (zm (zB (zr ?_)))
 refine zb ?_
 refine zc (zE (zm (yR ?_)))
 refine AQ.g ?_
 refine z9 0 [2] ?_
 refine AQ.u ?_
 try dsimp only[List.map,List.eraseIdx,cA,cN]
 refine yd
theorem i0x {k:List UInt8}(h:k.length≤64):n0w k=k++List.replicate (64-k.length) 0:=by
 unfold n0w
 rw[if_neg (by omega)]
theorem e0T (l:List UInt8)(c:UInt8){k:Nat}(h:k<l.length):(l.take (k+1)).map (· ^^^c)=(l.take k).map (· ^^^c)++[bt l k^^^c]:=by
 rw[g0E h,List.map_append];rfl
theorem j0Y (key b:List UInt8)(hk:key.length≤64)(hb:b.length≤900000):Sp Tryz.prog 149 [roB key,roB b] [] (Is (roB (i0z key b))):=by
 have hkb:=i0x hk
 refine yr Tryz.func149 _ Tryz.ntmps149 (fun w0 R0=> ?_)
 refine zB (zr ?_)
 refine zc (zE (zm (zB (zr ?_))))
 refine zb ?_
 refine yf ?_
 intro V1 hV1
 refine zc (zE (zm (zB (zB (zr ?_)))))
 refine zb ?_
 refine xG ?_
 refine wl (O.gtr rfl rfl rfl (by exact g0x (by omega))) (zE (zm ?_))
 refine AW.condF rfl (yI (zm (zB (yT ?_))))
 refine zh [(1,_)] (fun nn E H=> ∃(q:Nat) (V:Value) (l:List UInt8),(q≤64-key.length)∧(V.oneCell'=true)∧(l=key++List.replicate q 0)∧nn=64-key.length-q∧E= [(5,.val V)]∧H= [.row V 5 1 l.length (a0a l)]) _ (⟨0,_,key,by omega,‹_›,by simp,rfl,rfl,rfl⟩) ?_
 rintro nn E H ⟨q,V,l,hq,hV,hl,rfl,rfl,rfl⟩
 dsimp only[cA,cN]
 have hll:l.length=key.length+q:=by rw[hl];simp
 refine zB (zB (zr ?_))
 refine zb ?_
 refine xG ?_
 refine zN (zE (zm ?_))
 refine yk (fun h1=> ?_) (fun h1=> ?_)<;>(try simp only[wr]at h1)
 ·have hgu:a0a (l++[0])=a0a l++[.val (.int .u8 0)]:=a0T l 0
  have hgl:(l++[0]).length=l.length+1:=by simp
  refine yI (zm (yT (zr ?_)))
  refine zb ?_
  refine zQ ?_
  intro B2
  refine AO.g ?_
  refine z6 0 21 ?_
  refine xz 21 ?_
  refine AO.u ?_
  dsimp only[List.eraseIdx]
  refine zL 0 ?_
  intro V3 hV3
  refine zc (zE (y5 ?_))
  rw[show a0a l++_=_ from hgu.symm,←hgl]
  refine zn _ _ _ (by omega) (⟨q+1,_,l++[0],by omega,‹_›,by rw[hl,List.replicate_succ',List.append_assoc],rfl,rfl,rfl⟩)
 obtain⟨K,hK⟩: ∃K,K=n0w key:=⟨_,rfl⟩
 have hlK:l=K:=by rw[hK,hkb,hl,show 64-key.length=q by omega]
 have hKl:K.length=64:=by rw[hK];exact l0m key
 have hmac0:i0z key b=sha (K.map (· ^^^92)++sha (K.map (· ^^^54)++b)):=by rw[hK];rfl
 rw[hmac0]
 subst hlK
 refine AW.g ?_
 refine z9 0 [5] ?_
 refine AW.u ?_
 try dsimp only[List.map,List.eraseIdx,cA,cN]
 refine xx ?_
 refine xp ?_
 refine xu ?_
 refine y2 (zm (zB (zr ?_)))
 refine zc ?_
 refine zc (zE (zm (zB (zB (zr ?_)))))
 refine zb ?_
 refine zR ?_
 refine zb (zE (zm (yT ?_)))
 refine AW.g ?_
 refine G.nilRow 5 1 ?_
 refine AW.u ?_
 refine AW.g ?_
 refine G.nilRow 5 1 ?_
 refine AW.u ?_
 refine zh [(1,_),(23,_),(24,_)] (fun nn E H=> ∃(i:Nat) (V V':Value),(i≤64)∧(V.oneCell'=true)∧(V'.oneCell'=true)∧nn=64-i∧E= [(6,.val V),(7,.val V'),(25,.val (.int .i64 (i:Int)))]∧H= [.row V 5 1 i (a0a ((l.take i).map (· ^^^54))),.row V' 5 1 i (a0a ((l.take i).map (· ^^^92)))]) _ (⟨0,.slice none 0 0,.slice none 0 0,by omega,rfl,rfl,rfl,rfl,rfl⟩) ?_
 rintro nn E H ⟨i,V,V',hi,hV,hV',rfl,rfl,rfl⟩
 dsimp only[cA,cN]
 refine zB (zr ?_)
 refine zN (zE (zm (zB ?_)))
 refine yk (fun h2=> ?_) (fun h2=> ?_)<;>(try simp only[wr]at h2)
 ·have hil:i<l.length:=by omega
  have h5:=e0T l 54 hil
  have h9:=e0T l 92 hil
  have g5:a0a ((l.take i).map (· ^^^54))++[.val (.int .u8 (((bt l i)^^^54).toNat:Int))]=a0a ((l.take (i+1)).map (· ^^^54)):=by rw[h5];exact(a0T _ _).symm
  have g9:a0a ((l.take i).map (· ^^^92))++[.val (.int .u8 (((bt l i)^^^92).toNat:Int))]=a0a ((l.take (i+1)).map (· ^^^92)):=by rw[h9];exact(a0T _ _).symm
  refine yI (zm (zB (yT (zB (zr ?_)))))
  refine z8 ?_
  refine wl xT ?_
  refine zc (zE (zm (zr ?_)))
  refine zb ?_
  refine zb ?_
  refine wl (O.xor_ rfl rfl rfl (p0R _)) ?_
  refine zQ ?_
  intro B4
  refine AO.g ?_
  refine z6 0 32 ?_
  refine xz 32 ?_
  refine AO.u ?_
  dsimp only[List.eraseIdx]
  refine zL 0 ?_
  intro V5 hV5
  refine zb ?_
  refine zb ?_
  refine wl (O.xor_ rfl rfl rfl (p0Q _)) ?_
  refine zQ ?_
  intro B6
  refine AO.g ?_
  refine z6 0 37 ?_
  refine xz 37 ?_
  refine AO.u ?_
  dsimp only[List.eraseIdx]
  refine zL 1 ?_
  intro V7 hV7
  refine zc ?_
  refine zc (zE (y5 (zm (zr ?_))))
  refine zA ?_
  refine zb (zE ?_)
  rw[show a0a ((l.take i).map (· ^^^54))++_=_ from g5,show a0a ((l.take i).map (· ^^^92))++_=_ from g9]
  refine zn _ _ _ (by omega) (⟨i+1,V5,V7,by omega,hV5,hV7,rfl,rfl,rfl⟩)
 obtain rfl:i=64:=by omega
 rw[List.take_of_length_le (by omega)]
 have l5:(l.map (· ^^^54)).length=64:=by rw[List.length_map];omega
 have l9:(l.map (· ^^^92)).length=64:=by rw[List.length_map];omega
 generalize l.map (· ^^^54)=X at*
 generalize l.map (· ^^^92)=Y at*
 have hshl:(sha (X++b)).length=32:=f0n _
 have e43:AV.ro false (64+b.length) (a0a X++a0a b)=roB (X++b):=by rw[←l5,←List.length_append,←a0F];rfl
 have e45:AV.ro false (64+(sha (X++b)).length) (a0a Y++a0a (sha (X++b)))=roB (Y++sha (X++b)):=by rw[←l9,←List.length_append,←a0F];rfl
 refine xx ?_
 refine xp ?_
 refine xu ?_
 refine y2 (zm (zB (zr ?_)))
 refine zb ?_
 refine zb ?_
 refine zb ?_
 refine AO.append' (i:=0) rfl rfl rfl rfl (by rfl) (by rfl) rfl rfl rfl (by exact SrcA.ro TyD.ax (by(simp;done)) (lB rfl)) (by(simp[AV.cells,AV.one, *];done)) (by(unfold maxLen;omega)) (by omega) (by(dsimp only[List.set,List.append,cA,cN,a0w,a0v,a0c,a0n,AV.cells,List.map,List.map_cons,List.map_nil,List.take,List.drop,Nat.zero_add,Nat.add_zero,Nat.reduceAdd,Nat.reduceMul,Nat.zero_mul,Value.cells,List.toList_toArray,a0o,List.replicate,List.flatten,cP];done)) (fun _=>by(dsimp only[List.set];done)) ?_
 intro V8 hV8
 refine AO.g ?_
 refine yG 0 [43] ?_
 refine AO.u ?_
 dsimp only[List.map,List.eraseIdx,cA,cN]
 rw[e43]
 refine wl (xl rfl Tryz.func176 rfl rfl rfl (l0P _ (by(simp only[cH,List.length_map,f0n];omega)))) ?_
 refine zL 0 ?_
 intro V9 hV9
 refine AO.g ?_
 refine yG 0 [45] ?_
 refine AO.u ?_
 dsimp only[List.map,List.eraseIdx,cA,cN]
 rw[e45]
 refine wl (xl rfl Tryz.func176 rfl rfl rfl (l0P _ (by(simp only[cH,List.length_map,f0n];omega)))) ?_
 refine zc (zE (zm (yR ?_)))
 refine yd
theorem i0B (key b:List UInt8)(hk:key.length≤64)(hb:b.length≤900000):Sp Tryz.prog 104 [roB key,roB b] [] (Is (roB (i0z key b))):=by
 refine yr Tryz.func104 _ Tryz.ntmps104 (fun w0 R0=> ?_)
 refine zB (zr ?_)
 refine zc (zE (zm (zB (zr ?_))))
 refine zb ?_
 refine zb ?_
 refine wl (xl rfl Tryz.func149 rfl rfl rfl (j0Y _ _ (by omega) (by omega))) ?_
 refine zc (zE (zm (yR ?_)))
 refine yd
theorem e0h (prk info:List UInt8)(n:Nat)(hp:prk.length≤64)(hi:info.length≤100000)(hn:n≤8160):Sp Tryz.prog 105 [roB prk,roB info,.val (.int .i64 (n:Int))] [] (Is (.tup [roB (c0u prk info n),.val (.int .i64 0)])):=by
 refine yr Tryz.func105 _ Tryz.ntmps105 (fun w0 R0=> ?_)
 refine zB (zr ?_)
 refine zc ?_
 refine zc (zE (zm (zB (zB (zr ?_)))))
 refine zb ?_
 refine wl (O.lss rfl rfl rfl (by exact g0x (by omega))) ?_
 refine zb ?_
 refine zb ?_
 refine wl (O.gtr rfl rfl rfl (by exact g0x (by omega))) ?_
 refine wl (O.pickF rfl rfl rfl) (zE (zm ?_))
 refine AW.condF rfl (yI (zm (zB (zr ?_))))
 refine zc ?_
 refine zc (zE (zm (zB (zB (zr ?_)))))
 refine zc (zE (zm (yT ?_)))
 refine AW.g ?_
 refine G.nilRo 9 rfl ?_
 refine AW.u ?_
 try dsimp only[List.map,List.eraseIdx,cA,cN]
 refine AW.g ?_
 refine G.nilRow 5 1 ?_
 refine AW.u ?_
 refine zh [(0,_),(1,_),(2,_)] (fun nn E H=> ∃(k:Nat) (V:Value),(k≤(n+31)/32)∧(V.oneCell'=true)∧nn=(n+31)/32-k∧E= [(8,.val V),(9,roB (h0c prk info k)),(10,.val (.int .i64 ((k:Int)+1)))]∧H= [.row V 5 1 (b0B prk info k).length (a0a (b0B prk info k))]) _ (⟨0,_,by omega,rfl,rfl,rfl,rfl⟩) ?_
 rintro nn E H ⟨k,V,hk,hV,rfl,rfl,rfl⟩
 dsimp only[cA,cN]
 have hal:=d0f prk info k
 have htl:(h0c prk info k).length≤32:=by
  cases k with
  |zero=>simp[h0c]
  |succ k=>rw[f0G];omega
 refine zB (zB (zr ?_))
 refine zb ?_
 refine xG ?_
 refine zb ?_
 refine zN (zE (zm ?_))
 refine yk (fun h1=> ?_) (fun h1=> ?_)<;>(try simp only[wr]at h1)
 ·have hjn:Sp Tryz.prog 150 [.ro false 3 [roB (h0c prk info k),roB info,.ro false 1 [.val (.int .u8 ((u8 ((k:Int)+1)).toNat:Int))]]] [] (Is (roB (h0c prk info k++info++[UInt8.ofNat (k+1)]))):=by
   have h:=l0l [h0c prk info k,info,[u8 ((k:Int)+1)]] (by simp) (by simp;omega)
   rw[show [h0c prk info k,info,[u8 ((k:Int)+1)]].flatten=h0c prk info k++info++[UInt8.ofNat (k+1)] by rw[h0D];simp]at h
   exact h
  have hhm:Sp Tryz.prog 149 [roB prk,roB (h0c prk info k++info++[UInt8.ofNat (k+1)])] [] (Is (roB (h0c prk info (k+1)))):=j0Y _ _ hp (by simp;omega)
  have hst:=e0i prk info k
  have hsl:(b0B prk info (k+1)).length=(b0B prk info k).length+(h0c prk info (k+1)).length:=by rw[hst,cH]
  have htl2:=f0G prk info k
  refine yI (zm (zB (yT (zB (zr ?_)))))
  refine zb ?_
  refine zb ?_
  refine zb ?_
  refine zb ?_
  refine yQ ?_
  refine zQ ?_
  intro B1
  refine AO.g ?_
  refine z6 0 28 ?_
  refine xz 28 ?_
  refine AO.u ?_
  dsimp only[List.eraseIdx]
  refine yF ?_
  intro B2
  refine AO.g ?_
  refine z6 0 29 ?_
  refine xz 29 ?_
  refine AO.u ?_
  dsimp only[List.eraseIdx]
  refine wl (xl rfl Tryz.func150 rfl rfl rfl hjn) ?_
  refine wl (xl rfl Tryz.func149 rfl rfl rfl hhm) ?_
  refine zc (zE (zm (zr ?_)))
  refine zb ?_
  refine zb ?_
  refine zw 0 ?_
  intro V3 hV3
  refine zc (zE (y5 (zm (zr ?_))))
  refine zb ?_
  refine zA ?_
  refine zc (zE ?_)
  rw[show a0a (b0B prk info k)++_=a0a (b0B prk info (k+1)) by rw[hst,a0F],←hsl]
  refine zn _ _ _ (by omega) (⟨k+1,_,by omega,‹_›,rfl,rfl,rfl⟩)
 have hke:k=(n+31)/32:=by omega
 have hex:c0u prk info n=(b0B prk info k).take n:=by rw[hke];rfl
 rw[hex]
 generalize b0B prk info k=o at*
 refine AW.g ?_
 refine z9 0 [8] ?_
 refine AW.u ?_
 try dsimp only[List.map,List.eraseIdx,cA,cN]
 refine xx ?_
 refine xp ?_
 refine xu ?_
 refine y2 (zm (zB (zr ?_)))
 refine zb ?_
 refine zb ?_
 refine wl (O.sliceToB (k:=n) rfl rfl rfl (by rfl) (by omega)) ?_
 refine zc ?_
 refine zc (zE (zm (yR ?_)))
 refine yP
structure Inp where
 sec:List UInt8
 salt:List UInt8
 has:Bool
 ctx:List UInt8
 snd:List UInt8
 rcp:List UInt8
abbrev cI (x:Inp):List AV:= [roB x.sec,roB x.salt,.val (.bool x.has),roB x.ctx,roB x.snd,roB x.rcp]
abbrev p0x (x:Inp):AV:= .agg (cI x)
structure Cx where
 inp:Inp
 sk:List UInt8
 rk:List UInt8
 com:List UInt8
abbrev cX (c:Cx):List AV:= [roB c.inp.sec,roB c.inp.salt,.val (.bool c.inp.has),roB c.inp.ctx,roB c.inp.snd,roB c.inp.rcp,roB c.sk,roB c.rk,roB c.com]
abbrev h0Z (c:Cx):AV:= .agg (cX c)
def Inp.none:Inp:=⟨[],[],false,[],[],[]⟩
def Cx.none:Cx:=⟨Inp.none,[],[],[]⟩
abbrev d0k (x:Inp):Prop:=(1≤x.sec.length∧x.sec.length≤64∧x.salt.length≤64∧x.ctx.length≤16∧(x.has=true∨x.ctx.length=0))∧x.snd.length≤7∧x.rcp.length≤7∧ ¬x.snd=x.rcp
abbrev g0z (c:Cx):Prop:=d0k c.inp∧c.sk.length=16∧c.rk.length=16∧c.com.length=13
theorem o0Y {x:Inp}(h: ¬d0k x):false=decide (d0k x):=(decide_eq_false h).symm
theorem p0a {x:Inp}(h:1≤x.sec.length∧x.sec.length≤64∧x.salt.length≤64∧x.ctx.length≤16∧(x.has=true∨x.ctx.length=0)):
  (decide ((x.snd.length:Int)≤7)&&decide ((x.rcp.length:Int)≤7)&&(d0V x.snd).toList !=(d0V x.rcp).toList)=decide (d0k x):=by
 rw[Bool.eq_iff_iff,Bool.and_eq_true,Bool.and_eq_true,cQ,cQ,cQ,bne_iff_ne,ne_eq,b0R,b0R]
 constructor
 ·rintro⟨⟨h1,h2⟩,h3⟩
  exact⟨h,by omega,by omega,h3⟩
 rintro⟨-,h1,h2,h3⟩
 exact⟨⟨by omega,by omega⟩,h3⟩
theorem o0Z {x:Inp}:(decide (1≤(x.sec.length:Int))&&decide ((x.sec.length:Int)≤64)&&decide ((x.salt.length:Int)≤64)&&decide ((x.ctx.length:Int)≤16)&&(x.has||((x.ctx.length:Int)==0))&&decide ((x.snd.length:Int)≤7)&&decide ((x.rcp.length:Int)≤7)&& !(x.snd==x.rcp))=decide (d0k x):=by
 rw[Bool.eq_iff_iff]
 simp only[Bool.and_eq_true,Bool.or_eq_true,cQ,beq_iff_eq,Bool.not_eq_true',beq_eq_false_iff_ne,ne_eq]
 constructor
 ·rintro⟨⟨⟨⟨⟨⟨⟨h1,h2⟩,h3⟩,h4⟩,h5⟩,h6⟩,h7⟩,h8⟩
  exact⟨⟨by omega,by omega,by omega,by omega,h5.imp id (fun h=>by omega)⟩,by omega,by omega,h8⟩
 rintro⟨⟨h1,h2,h3,h4,h5⟩,h6,h7,h8⟩
 exact⟨⟨⟨⟨⟨⟨⟨by omega,by omega⟩,by omega⟩,by omega⟩,h5.imp id (fun h=>by omega)⟩,by omega⟩,by omega⟩,h8⟩
theorem i0E (x:Inp):Sp Tryz.prog 76 [p0x x] [] (Is (.val (.bool (decide (d0k x))))):=by
 refine yr Tryz.func76 _ Tryz.ntmps76 (fun w0 R0=> ?_)
 refine zB (zr ?_)
 refine ya ?_
 intro B1
 refine zc (zE (zm (zB (zB (zr ?_)))))
 refine zq ?_
 refine zt ?_
 refine zR ?_
 refine zN ?_
 refine zb ?_
 refine zJ ?_
 refine zl 8 ?_
 refine zX 9 ?_
 refine yb 10 ?_
 refine zF ?_
 refine zb ?_
 refine zJ ?_
 refine zl 14 ?_
 refine zX 15 ?_
 refine yb 16 ?_
 refine zF ?_
 refine zb ?_
 refine zJ ?_
 refine zl 20 ?_
 refine zX 21 ?_
 refine yb 22 ?_
 refine zF ?_
 refine zb ?_
 refine zJ ?_
 refine zl 26 ?_
 refine y3 27 ?_
 refine xA 28 ?_
 refine zJ ?_
 refine zl 30 ?_
 refine zX 31 ?_
 refine yb 32 ?_
 refine xS 29 ?_
 refine zF (zE (zm ?_))
 refine yk (fun h35=> ?_) (fun h35=> ?_)<;>(try simp only[wr]at h35)
 ·have e:=o0Y (x:=x) (by
   rintro⟨⟨h1,h2,h3,h4,h5⟩, -⟩
   rcases h35 with(((h|h)|h)|h)|⟨h,h'⟩
   ·omega
   ·omega
   ·omega
   ·omega
   rcases h5 with h5|h5
   ·rw[h]at h5;cases h5
   omega)
  refine zB (zr ?_)
  refine zc (zE (zm (yR (y0 ?_))))
  refine AQ.ret1 rfl rfl nS (⟨congrArg (fun z=>AV.val (.bool z)) e,rfl⟩)
 have e:=p0a (x:=x) (by
  obtain⟨⟨⟨⟨h1,h2⟩,h3⟩,h4⟩,h5⟩:=h35
  refine⟨by omega,by omega,by omega,by omega,?_⟩
  cases hh:x.has with
  |true=>exact .inl rfl
  |false=>have:=h5 hh;exact .inr (by omega))
 refine yI (zm (zB (zr ?_)))
 refine zq ?_
 refine zt ?_
 refine zR ?_
 refine wl xF ?_
 refine zb ?_
 refine zJ ?_
 refine zl 41 ?_
 refine zX 42 ?_
 refine yW 43 ?_
 refine zO ?_
 refine zb ?_
 refine zJ ?_
 refine zl 47 ?_
 refine AO.opG rfl rfl rfl (fun hp=>wo 48 rfl (by exact hp) (O.convS rfl rfl (by rfl))) ?_
 refine zJ ?_
 refine zl 50 ?_
 refine AO.opG rfl rfl rfl (fun hp=>wo 51 rfl (by exact hp) (O.convS rfl rfl (by rfl))) ?_
 refine AO.opG rfl rfl rfl (fun hp=>wo 49 rfl (by exact hp) (wo 52 rfl (by exact hp) (O.neqS rfl rfl rfl (by rfl)))) ?_
 refine zO ?_
 refine zc (zE (zm (yR ?_)))
 refine AQ.ret1 rfl rfl nS (⟨congrArg (fun z=>AV.val (.bool z)) e,rfl⟩)
theorem e0L (x:Inp):Sp Tryz.prog 77 [p0x x] [] (Is (.val (.bool (decide (d0k x))))):=by
 have e:=o0Z (x:=x)
 refine yr Tryz.func77 _ Tryz.ntmps77 (fun w0 R0=> ?_)
 refine zB (zr ?_)
 refine ya ?_
 intro B1
 refine zc (zE (zm (zB (zr ?_))))
 refine zq ?_
 refine zt ?_
 refine zR ?_
 refine xY ?_
 refine zb ?_
 refine zJ ?_
 refine zl 8 ?_
 refine zX 9 ?_
 refine yW 10 ?_
 refine zO ?_
 refine zb ?_
 refine zJ ?_
 refine zl 14 ?_
 refine zX 15 ?_
 refine yW 16 ?_
 refine zO ?_
 refine zb ?_
 refine zJ ?_
 refine zl 20 ?_
 refine zX 21 ?_
 refine yW 22 ?_
 refine zO ?_
 refine zb ?_
 refine zJ ?_
 refine zl 26 ?_
 refine xA 27 ?_
 refine zJ ?_
 refine zl 29 ?_
 refine zX 30 ?_
 refine yE 31 ?_
 refine AO.opG rfl rfl rfl (fun hp=>wo 28 rfl (by exact hp) (O.pickOr rfl rfl rfl rfl (fun h=>by simp_all))) ?_
 refine zO ?_
 refine zb ?_
 refine zJ ?_
 refine zl 36 ?_
 refine zX 37 ?_
 refine yW 38 ?_
 refine zO ?_
 refine zb ?_
 refine zJ ?_
 refine zl 42 ?_
 refine zX 43 ?_
 refine yW 44 ?_
 refine zO ?_
 refine zb ?_
 refine zJ ?_
 refine zl 48 ?_
 refine zJ ?_
 refine zl 50 ?_
 refine AO.opG rfl rfl rfl (fun hp=>wo 49 rfl (by exact hp) (wo 51 rfl (by exact hp) (xl rfl Tryz.func31 rfl rfl rfl (b0n _ _)))) ?_
 refine y3 52 ?_
 refine zO ?_
 refine zc (zE (zm (yR ?_)))
 refine AQ.ret1 rfl rfl nS (⟨congrArg (fun z=>AV.val (.bool z)) e,rfl⟩)
theorem r0p {c:Cx}:(decide (d0k c.inp)&&((c.sk.length:Int)==16)&&((c.rk.length:Int)==16)&&((c.com.length:Int)==13))=decide (g0z c):=by
 rw[Bool.eq_iff_iff]
 simp only[Bool.and_eq_true,cQ,beq_iff_eq]
 constructor
 ·rintro⟨⟨⟨h1,h2⟩,h3⟩,h4⟩
  exact⟨h1,by omega,by omega,by omega⟩
 rintro⟨h1,h2,h3,h4⟩
 exact⟨⟨⟨h1,by omega⟩,by omega⟩,by omega⟩
theorem c0G (c:Cx):Sp Tryz.prog 27 [h0Z c] [] (Is (.val (.bool (decide (g0z c))))):=by
 have e:=r0p (c:=c)
 refine yr Tryz.func27 _ Tryz.ntmps27 (fun w0 R0=> ?_)
 refine zB (zr ?_)
 refine ya ?_
 intro B1
 refine zc (zE (zm (zB (zr ?_))))
 refine zq ?_
 refine zy ?_
 refine wl (xl rfl Tryz.func76 rfl rfl rfl (i0E c.inp)) ?_
 refine zb ?_
 refine zJ ?_
 refine zl 7 ?_
 refine zX 8 ?_
 refine yE 9 ?_
 refine zO ?_
 refine zb ?_
 refine zJ ?_
 refine zl 13 ?_
 refine zX 14 ?_
 refine yE 15 ?_
 refine zO ?_
 refine zb ?_
 refine zJ ?_
 refine zl 19 ?_
 refine zX 20 ?_
 refine yE 21 ?_
 refine zO ?_
 refine zc (zE (zm (yR ?_)))
 refine AQ.ret1 rfl rfl nS (⟨congrArg (fun z=>AV.val (.bool z)) e,rfl⟩)
theorem c0V (c:Cx):Sp Tryz.prog 28 [h0Z c] [] (Is (.val (.bool (decide (g0z c))))):=by
 have e:=r0p (c:=c)
 refine yr Tryz.func28 _ Tryz.ntmps28 (fun w0 R0=> ?_)
 refine zB (zr ?_)
 refine ya ?_
 intro B1
 refine zc (zE (zm (zB (zr ?_))))
 refine zq ?_
 refine zy ?_
 refine wl (xl rfl Tryz.func77 rfl rfl rfl (e0L c.inp)) ?_
 refine zb ?_
 refine zJ ?_
 refine zl 7 ?_
 refine zX 8 ?_
 refine yE 9 ?_
 refine zO ?_
 refine zb ?_
 refine zJ ?_
 refine zl 13 ?_
 refine zX 14 ?_
 refine yE 15 ?_
 refine zO ?_
 refine zb ?_
 refine zJ ?_
 refine zl 19 ?_
 refine zX 20 ?_
 refine yE 21 ?_
 refine zO ?_
 refine zc (zE (zm (yR ?_)))
 refine AQ.ret1 rfl rfl nS (⟨congrArg (fun z=>AV.val (.bool z)) e,rfl⟩)
def o0b (x:Inp):Cx:=⟨x,c0u (i0z x.salt x.sec) (d0a x.snd x.ctx x.has j0S 16) 16,c0u (i0z x.salt x.sec) (d0a x.rcp x.ctx x.has j0S 16) 16,c0u (i0z x.salt x.sec) (d0a [] x.ctx x.has ivT 13) 13⟩
theorem n0E {x:Inp}(h:d0k x):g0z (o0b x):=⟨h,d0e,d0e,d0e⟩
abbrev r0y (r:Cx×Int):AV:= .tup [h0Z r.1,.val (.int .i64 r.2)]
def o0c (x:Inp):Cx×Int:=if d0k x then(o0b x,0)else(Cx.none,1)
theorem g0o (x:Inp):Sp Tryz.prog 54 [p0x x] [] (Is (r0y (o0c x))):=by
 refine yr Tryz.func54 _ Tryz.ntmps54 (fun w0 R0=> ?_)
 refine zB (zr ?_)
 refine ya ?_
 intro B1
 refine zd ?_
 intro B2
 refine zc (zE (zm (zB (zB (zr ?_)))))
 refine zD ?_
 refine wl (xl rfl Tryz.func77 rfl rfl rfl (e0L x)) ?_
 refine xf (zE (zm ?_))
 refine yk (fun h=> ?_) (fun h=> ?_)<;>(try simp only[wr]at h)
 ·rw[show o0c x=(Cx.none,1)from if_neg h]
  refine zB (zr ?_)
  refine zT ?_
  refine za 0 ?_
  refine zc (zE (zm (yR (y0 ?_))))
  refine wg xd zo (⟨rfl,rfl⟩)
 rw[show o0c x=(o0b x,0)from if_pos h]
 obtain⟨⟨h1,h2,h3,h4,h5⟩,h6,h7,h8⟩:=h
 have hi1:=f0r x.snd x.ctx x.has _ j0S 16 (by omega) (by omega) (by decide) (by omega) h0t
 have hi2:=f0r x.rcp x.ctx x.has _ j0S 16 (by omega) (by omega) (by decide) (by omega) h0t
 have hi3:=f0r [] x.ctx x.has _ ivT 13 (by simp) (by omega) (by decide) (by omega) k0Q
 have hl:=l0q x.salt x.sec
 have g1:=d0J (id:=x.snd) (ctx:=x.ctx) (has:=x.has) (kind:=j0S) (n:=16) (by omega) (by omega) (by decide) (by omega)
 have g2:=d0J (id:=x.rcp) (ctx:=x.ctx) (has:=x.has) (kind:=j0S) (n:=16) (by omega) (by omega) (by decide) (by omega)
 have g3:=d0J (id:= []) (ctx:=x.ctx) (has:=x.has) (kind:=ivT) (n:=13) (by simp) (by omega) (by decide) (by omega)
 have he1:=e0h (i0z x.salt x.sec) (d0a x.snd x.ctx x.has j0S 16) 16 (by omega) (by omega) (by omega)
 have he2:=e0h (i0z x.salt x.sec) (d0a x.rcp x.ctx x.has j0S 16) 16 (by omega) (by omega) (by omega)
 have he3:=e0h (i0z x.salt x.sec) (d0a [] x.ctx x.has ivT 13) 13 (by omega) (by omega) (by omega)
 refine yI (zm (zB (zr ?_)))
 refine zq ?_
 refine zv ?_
 refine zq ?_
 refine zv ?_
 refine wl (xl rfl Tryz.func104 rfl rfl rfl (i0B _ _ (by omega) (by omega))) ?_
 refine zc (zE (zm (zB ?_)))
 refine yv 20 ?_
 simp only[cT,cZ,cD,cO]
 refine yC ?_
 refine zY ?_
 refine wm (xl rfl Tryz.func69 rfl rfl rfl (a0K _ (by omega))) ?_
 refine yC ?_
 refine zY ?_
 refine wm (xl rfl Tryz.func69 rfl rfl rfl (a0K _ (by omega))) ?_
 refine yC ?_
 refine zY ?_
 refine yC ?_
 refine zY ?_
 refine wm (xl rfl Tryz.func69 rfl rfl rfl (a0K _ (by omega))) ?_
 refine yC ?_
 refine zY ?_
 refine wm (xl rfl Tryz.func69 rfl rfl rfl (a0K _ (by omega))) ?_
 refine yC ?_
 refine zY ?_
 refine wm (xl rfl Tryz.func69 rfl rfl rfl (a0K _ (by omega))) ?_
 refine wm yi ?_
 refine wm yi ?_
 refine xR ?_
 refine wh ?_
 simp only[a0l,cN,cA,cP]
 rintro _ _ ⟨B3,rfl,rfl⟩
 simp only[cA,cN]
 refine za 0 (zE (zm (zB (zr ?_))))
 refine zb ?_
 refine zq ?_
 refine zv ?_
 refine zq ?_
 refine zv ?_
 refine zq ?_
 refine zv ?_
 refine wl (xl rfl Tryz.func106 rfl rfl rfl hi1) ?_
 refine wl (xl rfl Tryz.func105 rfl rfl rfl he1) ?_
 refine zb ?_
 refine zW ?_
 refine zW ?_
 refine zq ?_
 refine za 0 (zE (zm (zB (zr ?_))))
 refine zb ?_
 refine zq ?_
 refine zv ?_
 refine zq ?_
 refine zv ?_
 refine zq ?_
 refine zv ?_
 refine wl (xl rfl Tryz.func106 rfl rfl rfl hi2) ?_
 refine wl (xl rfl Tryz.func105 rfl rfl rfl he2) ?_
 refine zb ?_
 refine zW ?_
 refine zW ?_
 refine zq ?_
 refine za 0 (zE (zm (zB (zr ?_))))
 refine zb ?_
 refine zq ?_
 refine zv ?_
 refine zq ?_
 refine zv ?_
 refine wl (O.callC rfl Tryz.func106 rfl rfl rfl hi3 (by(repeat(first|exact CoeL.nil|refine CoeL.cons Coe.rfl ?_|refine CoeL.cons Coe.nil ?_));done)) ?_
 refine wl (xl rfl Tryz.func105 rfl rfl rfl he3) ?_
 refine zb ?_
 refine zW ?_
 refine zW ?_
 refine zq ?_
 refine za 0 (zE (zm (zB (zr ?_))))
 refine zy ?_
 refine za 1 ?_
 refine zc (zE (zm (yR ?_)))
 refine AQ.retCT rfl rfl rfl mM (by(dsimp only[List.set,cA,cN,List.take,List.drop];rfl)) rfl nS (⟨rfl,rfl⟩)
end Go.Proofs.YtojomcdjcpmnkaaGreat.By
namespace Go.Proofs.YtojomcdjcpmnkaaGreat.By
open Go.RowKit L A Dk
attribute [local irreducible] AW AQ AO
def beVal (l:List UInt8):Nat:=l.foldl (fun n x=>n*256+x.toNat) 0
theorem f0d (l:List UInt8)(x:UInt8):beVal (l++[x])=beVal l*256+x.toNat:=by simp[beVal,List.foldl_append]
def c0I (b:List UInt8):Int×Int:=if b.length=0 then(0,2)else if 5<b.length then(0,8)else if 1<b.length∧bt b 0=0 then(0,4)else((beVal b:Int),0)
theorem j0N (b:List UInt8):Sp Tryz.prog 129 [roB b] [] (Is (.tup [.val (.int .i64 (c0I b).1),.val (.int .i64 (c0I b).2)])):=by
 refine yr Tryz.func129 _ Tryz.ntmps129 (fun w0 R0=> ?_)
 refine zB (zr ?_)
 refine zc ?_
 refine zc (zE (zm (zB (yT (zB (zr ?_))))))
 refine zb ?_
 refine zR ?_
 refine yh ?_
 refine zc (zE (zm ?_))
 refine yk (fun h=> ?_) (fun h=> ?_)<;>(try simp only[wr]at h)
 ·have e:c0I b=(0,2):=by unfold c0I;rw[if_pos (by omega)]
  rw[e]
  refine zB (zr ?_)
  refine zc ?_
  refine zc (zE (zm (yR ?_)))
  refine xN (y0 ?_)
  refine yP
 refine zB (zr ?_)
 refine zb ?_
 refine zR ?_
 refine yw ?_
 refine zc (zE (zm ?_))
 refine yk (fun h2=> ?_) (fun h2=> ?_)<;>(try simp only[wr]at h2)
 ·have e:c0I b=(0,8):=by unfold c0I;rw[if_neg (by omega),if_pos (by omega)]
  rw[e]
  refine zB (zr ?_)
  refine zc ?_
  refine zc (zE (zm (yR ?_)))
  refine xN (y0 ?_)
  refine yP
 refine zB (zr ?_)
 refine zb ?_
 refine zR ?_
 refine yw ?_
 refine zb ?_
 refine yl ?_
 refine AO.opG rfl rfl rfl (fun hp=>wo 20 rfl (by exact hp) yg) ?_
 refine AO.opG rfl rfl rfl (fun hp=>wo 21 rfl (by exact hp) (O.loadR rfl rfl (by exact c0N (k:=0) (by omega) rfl))) ?_
 refine yE 22 ?_
 refine zO ?_
 refine zc (zE (zm ?_))
 refine yk (fun h3=> ?_) (fun h3=> ?_)<;>(try simp only[wr]at h3)
 ·have e:c0I b=(0,4):=by unfold c0I;rw[if_neg (by omega),if_neg (by omega),if_pos ⟨by omega,u8_eq.1 (by simpa using h3.2)⟩]
  rw[e]
  refine zB (zr ?_)
  refine zc ?_
  refine zc (zE (zm (yR ?_)))
  refine xN (y0 ?_)
  refine yP
 have e:c0I b=((beVal b:Int),0):=by
  unfold c0I
  rw[if_neg (by omega),if_neg (by omega),if_neg]
  rintro⟨h4,h5⟩
  exact h3 (by omega) (by rw[h5];rfl)
 rw[e]
 refine yI (y5 (zm (zB (zr ?_))))
 refine zc (zE (zm (zB (zB (zr ?_)))))
 refine zb ?_
 refine zR ?_
 refine zb (zE (zm (yT ?_)))
 refine x3 [(25,_),(26,_)] (fun nn E H=> ∃(k:Nat),(k≤b.length)∧(beVal (b.take k)<256^k)∧nn=b.length-k∧E= [(4,.val (.int .i64 (beVal (b.take k):Int))),(27,.val (.int .i64 (k:Int)))]∧H= []) _ (⟨0,by omega,by simp[beVal],rfl,rfl,rfl⟩) ?_
 rintro nn E H ⟨k,h1,hv,rfl,rfl,rfl⟩
 dsimp only[cA,cN]
 refine zB (zr ?_)
 refine zN (zE (zm (zB ?_)))
 refine yk (fun hlt=> ?_) (fun hlt=> ?_)<;>(try simp only[wr]at hlt)
 ·have hlt':k<b.length:=by omega
  have hx:=i0f (bt b k)
  have hv2:beVal (b.take k)<4294967296:=Nat.lt_of_lt_of_le hv (Nat.le_trans (Nat.pow_le_pow_right (by decide) (show k≤4 by omega)) (by decide))
  have hs:beVal (b.take (k+1))=beVal (b.take k)*256+(bt b k).toNat:=by rw[g0E hlt',f0d]
  refine yI (zm (zB (yT (zB (zr ?_)))))
  refine z8 ?_
  refine wl xT ?_
  refine zc (zE (zm (zr ?_)))
  refine zb ?_
  refine wl (O.shlK 8 256 rfl rfl rfl rfl (by rfl) (by exact f0U (by omega))) ?_
  refine zb ?_
  refine wk ?_
  refine wl (O.or_ rfl rfl rfl (n0h 8 (m:=256) (by decide) (by omega) (by omega))) ?_
  refine zc (zE (y5 (zm (zr ?_))))
  refine zA ?_
  refine zb (zE ?_)
  refine xJ _ _ _ (by omega) (⟨k+1,by omega,by rw[hs,Nat.pow_succ];omega,rfl,by rw[hs,Int.natCast_add,Int.natCast_mul],rfl⟩)
 obtain rfl:k=b.length:=by omega
 rw[List.take_length]
 refine xx ?_
 refine xp ?_
 refine xu ?_
 refine y2 (zm (zB (zr ?_)))
 refine zb ?_
 refine zc ?_
 refine zc (zE (zm (yR ?_)))
 refine yP
theorem i0l (b:List UInt8):Sp Tryz.prog 130 [roB b] [] (Is (.tup [.val (.int .i64 (c0I b).1),.val (.int .i64 (c0I b).2)])):=by
 refine yr Tryz.func130 _ Tryz.ntmps130 (fun w0 R0=> ?_)
 refine zB (zr ?_)
 refine zc ?_
 refine zc (zE (zm (zB (yT (zB (zr ?_))))))
 refine zb ?_
 refine zR ?_
 refine yh ?_
 refine zc (zE (zm ?_))
 refine yk (fun h=> ?_) (fun h=> ?_)<;>(try simp only[wr]at h)
 ·have e:c0I b=(0,2):=by unfold c0I;rw[if_pos (by omega)]
  rw[e]
  refine zB (zr ?_)
  refine zc ?_
  refine zc (zE (zm (yR ?_)))
  refine xN (y0 ?_)
  refine yP
 refine zB (zr ?_)
 refine zb ?_
 refine zR ?_
 refine yw ?_
 refine zc (zE (zm ?_))
 refine yk (fun h2=> ?_) (fun h2=> ?_)<;>(try simp only[wr]at h2)
 ·have e:c0I b=(0,8):=by unfold c0I;rw[if_neg (by omega),if_pos (by omega)]
  rw[e]
  refine zB (zr ?_)
  refine zc ?_
  refine zc (zE (zm (yR ?_)))
  refine xN (y0 ?_)
  refine yP
 refine zB (zr ?_)
 refine zb ?_
 refine zR ?_
 refine yw ?_
 refine zb ?_
 refine yl ?_
 refine AO.opG rfl rfl rfl (fun hp=>wo 20 rfl (by exact hp) yg) ?_
 refine AO.opG rfl rfl rfl (fun hp=>wo 21 rfl (by exact hp) (O.loadR rfl rfl (by exact c0N (k:=0) (by omega) rfl))) ?_
 refine yE 22 ?_
 refine zO ?_
 refine zc (zE (zm ?_))
 refine yk (fun h3=> ?_) (fun h3=> ?_)<;>(try simp only[wr]at h3)
 ·have e:c0I b=(0,4):=by unfold c0I;rw[if_neg (by omega),if_neg (by omega),if_pos ⟨by omega,u8_eq.1 (by simpa using h3.2)⟩]
  rw[e]
  refine zB (zr ?_)
  refine zc ?_
  refine zc (zE (zm (yR ?_)))
  refine xN (y0 ?_)
  refine yP
 have e:c0I b=((beVal b:Int),0):=by
  unfold c0I
  rw[if_neg (by omega),if_neg (by omega),if_neg]
  rintro⟨h4,h5⟩
  exact h3 (by omega) (by rw[h5];rfl)
 rw[e]
 refine yI (y5 (zm (zB (zr ?_))))
 refine zc (zE (zm (zB (zB (zr ?_)))))
 refine zb ?_
 refine zR ?_
 refine zb (zE (zm (yT ?_)))
 refine x3 [(25,_),(26,_)] (fun nn E H=> ∃(k:Nat),(k≤b.length)∧(beVal (b.take k)<256^k)∧nn=b.length-k∧E= [(4,.val (.int .i64 (beVal (b.take k):Int))),(27,.val (.int .i64 (k:Int)))]∧H= []) _ (⟨0,by omega,by simp[beVal],rfl,rfl,rfl⟩) ?_
 rintro nn E H ⟨k,h1,hv,rfl,rfl,rfl⟩
 dsimp only[cA,cN]
 refine zB (zr ?_)
 refine zN (zE (zm (zB ?_)))
 refine yk (fun hlt=> ?_) (fun hlt=> ?_)<;>(try simp only[wr]at hlt)
 ·have hlt':k<b.length:=by omega
  have hx:=i0f (bt b k)
  have hv2:beVal (b.take k)<4294967296:=Nat.lt_of_lt_of_le hv (Nat.le_trans (Nat.pow_le_pow_right (by decide) (show k≤4 by omega)) (by decide))
  have hs:beVal (b.take (k+1))=beVal (b.take k)*256+(bt b k).toNat:=by rw[g0E hlt',f0d]
  refine yI (zm (zB (yT (zB (zr ?_)))))
  refine z8 ?_
  refine wl xT ?_
  refine zc (zE (zm (zr ?_)))
  refine zb ?_
  refine wl xq ?_
  refine zb ?_
  refine wk ?_
  refine zA ?_
  refine zc (zE (y5 (zm (zr ?_))))
  refine zA ?_
  refine zb (zE ?_)
  refine xJ _ _ _ (by omega) (⟨k+1,by omega,by rw[hs,Nat.pow_succ];omega,rfl,by rw[hs,Int.natCast_add,Int.natCast_mul],rfl⟩)
 obtain rfl:k=b.length:=by omega
 rw[List.take_length]
 refine xx ?_
 refine xp ?_
 refine xu ?_
 refine y2 (zm (zB (zr ?_)))
 refine zb ?_
 refine zc ?_
 refine zc (zE (zm (yR ?_)))
 refine yP
structure Cmp where
 piv:Int
 hasKid:Bool
 kid:List UInt8
 hasCtx:Bool
 ctx:List UInt8
 group:Bool
 deriving DecidableEq
abbrev k0D (c:Cmp):AV:= .agg [.val (.int .i64 c.piv),.val (.bool c.hasKid),roB c.kid,.val (.bool c.hasCtx),roB c.ctx,.val (.bool c.group)]
def i0U (c:Cmp):Prop:=(-1≤c.piv∧c.piv≤1099511627775∧(c.kid.length:Int)≤7∧(c.ctx.length:Int)≤16)∧(c.hasKid=true∨(c.kid.length:Int)=0)∧(c.hasCtx=true∨(c.ctx.length:Int)=0)
instance (c:Cmp):Decidable (i0U c):=by unfold i0U;infer_instance
theorem k0h (c:Cmp):Sp Tryz.prog 160 [k0D c] [] (Is (.val (.bool (decide (i0U c))))):=by
 obtain⟨piv,hk,kid,hc,ctx,g⟩:=c
 refine yr Tryz.func160 _ Tryz.ntmps160 (fun w0 R0=> ?_)
 refine zB (zr ?_)
 refine ya ?_
 intro B
 refine zc (zE (zm (zB (zB (zr ?_)))))
 refine zq ?_
 refine zt ?_
 refine zN ?_
 refine zb ?_
 refine zJ ?_
 refine zl 7 ?_
 refine yb 8 ?_
 refine zF ?_
 refine zb ?_
 refine zJ ?_
 refine zl 12 ?_
 refine zX 13 ?_
 refine yb 14 ?_
 refine zF ?_
 refine zb ?_
 refine zJ ?_
 refine zl 18 ?_
 refine zX 19 ?_
 refine yb 20 ?_
 refine zF (zE (zm ?_))
 refine yk (fun h=> ?_) (fun h=> ?_)<;>(try simp only[wr]at h)
 ·have e:decide (i0U ⟨piv,hk,kid,hc,ctx,g⟩)=false:=decide_eq_false fun hv=>by
   obtain⟨⟨a1,a2,a3,a4⟩, -⟩:=hv
   simp only at*
   omega
  refine zB (zr ?_)
  refine zc (zE (zm (yR (y0 ?_))))
  refine AQ.ret1 rfl rfl nS (⟨congrArg (fun z=>AV.val (.bool z)) e.symm,rfl⟩)
 refine yI (zm (zB (zr ?_)))
 refine zq ?_
 refine zt ?_
 refine zb ?_
 refine zJ ?_
 refine zl 26 ?_
 refine zX 27 ?_
 refine yE 28 ?_
 refine zF ?_
 refine zb ?_
 refine zJ ?_
 refine zl 32 ?_
 refine xA 33 ?_
 refine zJ ?_
 refine zl 35 ?_
 refine zX 36 ?_
 refine yE 37 ?_
 refine AO.opG rfl rfl rfl (fun hp=>wo 34 rfl (by exact hp) (O.pickOr rfl rfl rfl rfl (fun h=>by simp_all))) ?_
 refine zO ?_
 refine zc (zE (zm (yR ?_)))
 have e:decide (i0U ⟨piv,hk,kid,hc,ctx,g⟩)=((hk||((kid.length:Int)==0))&&(hc||((ctx.length:Int)==0))):=by
  refine g0p ?_
  simp only[i0U,cQ,Bool.and_eq_true,Bool.or_eq_true,beq_iff_eq]
  constructor
  ·exact fun h=>h.2
  exact fun h2=>⟨by omega,h2⟩
 refine AQ.ret1 rfl rfl nS (⟨congrArg (fun z=>AV.val (.bool z)) e.symm,rfl⟩)
theorem i0n (c:Cmp):Sp Tryz.prog 73 [k0D c] [] (Is (.val (.bool (decide (i0U c))))):=by
 obtain⟨piv,hk,kid,hc,ctx,g⟩:=c
 refine yr Tryz.func73 _ Tryz.ntmps73 (fun w0 R0=> ?_)
 refine zB (zr ?_)
 refine ya ?_
 intro B
 refine zc (zE (zm (zB (zr ?_))))
 refine zq ?_
 refine zt ?_
 refine xY ?_
 refine zb ?_
 refine zJ ?_
 refine zl 7 ?_
 refine yW 8 ?_
 refine zO ?_
 refine zb ?_
 refine zJ ?_
 refine zl 12 ?_
 refine zX 13 ?_
 refine yW 14 ?_
 refine zO ?_
 refine zb ?_
 refine zJ ?_
 refine zl 18 ?_
 refine xA 19 ?_
 refine zJ ?_
 refine zl 21 ?_
 refine zX 22 ?_
 refine yE 23 ?_
 refine AO.opG rfl rfl rfl (fun hp=>wo 20 rfl (by exact hp) (O.pickOr rfl rfl rfl rfl (fun h=>by simp_all))) ?_
 refine zO ?_
 refine zb ?_
 refine zJ ?_
 refine zl 28 ?_
 refine zX 29 ?_
 refine yW 30 ?_
 refine zO ?_
 refine zb ?_
 refine zJ ?_
 refine zl 34 ?_
 refine xA 35 ?_
 refine zJ ?_
 refine zl 37 ?_
 refine zX 38 ?_
 refine yE 39 ?_
 refine AO.opG rfl rfl rfl (fun hp=>wo 36 rfl (by exact hp) (O.pickOr rfl rfl rfl rfl (fun h=>by simp_all))) ?_
 refine zO ?_
 refine zc (zE (zm (yR ?_)))
 have e:decide (i0U ⟨piv,hk,kid,hc,ctx,g⟩)=(decide (-1≤piv)&&decide (piv≤1099511627775)&&decide ((kid.length:Int)≤7)&&(hk||((kid.length:Int)==0))&&decide ((ctx.length:Int)≤16)&&(hc||((ctx.length:Int)==0))):=by
  refine g0p ?_
  simp only[i0U,cQ,Bool.and_eq_true,Bool.or_eq_true,beq_iff_eq]
  constructor
  ·exact fun h=>⟨⟨⟨⟨⟨h.1.1,h.1.2.1⟩,h.1.2.2.1⟩,h.2.1⟩,h.1.2.2.2⟩,h.2.2⟩
  exact fun h=>⟨⟨h.1.1.1.1.1,h.1.1.1.1.2,h.1.1.1.2,h.1.2⟩,h.1.1.2,h.2⟩
 refine AQ.ret1 rfl rfl nS (⟨congrArg (fun z=>AV.val (.bool z)) e.symm,rfl⟩)
def flg (c:Cmp):Int:=(b0O c.piv).length+(if c.hasKid then 8 else 0)+(if c.hasCtx then 16 else 0)+(if c.group then 32 else 0)
def n0C (c:Cmp):List UInt8:=u8 (flg c)::b0O c.piv++(if c.hasCtx then u8 c.ctx.length::c.ctx else [])++c.kid
def c0S (c:Cmp):List UInt8×Int:=if ¬i0U c then([],1)else if flg c=0 then([],0)else(n0C c,0)
theorem m0g {c:Cmp}(h:i0U c):0≤flg c∧flg c≤61:=by
 have:=c0e c.piv
 unfold flg
 (repeat' split)<;>omega
theorem i0I (c:Cmp):Sp Tryz.prog 117 [k0D c] [] (Is (.tup [roB (c0S c).1,.val (.int .i64 (c0S c).2)])):=by
 have hfl:=m0g (c:=c)
 have hpl:=c0e c.piv
 obtain⟨piv,hk,kid,hc,ctx,g⟩:=c
 refine yr Tryz.func117 _ Tryz.ntmps117 (fun w0 R0=> ?_)
 refine zB (zr ?_)
 refine ya ?_
 intro B
 refine zc ?_
 refine zc (zE (zm (zB (zB (zr ?_)))))
 refine wl (O.loadK rfl rfl (by repeat(exact List.Mem.head _)) (by(dsimp only[List.set,List.append,cA,cN,a0c,a0n,AV.cells,List.map,List.map_cons,List.map_nil,List.take,List.drop,Nat.zero_add,Nat.add_zero,Nat.reduceAdd,Nat.reduceMul,Nat.zero_mul,Value.cells,List.toList_toArray,a0o,List.replicate,List.flatten,cP];done)) (by rfl)) ?_
 refine wl (xl rfl Tryz.func160 rfl rfl rfl (k0h ⟨_,_,_,_,_,_⟩)) ?_
 refine xf (zE (zm ?_))
 refine yk (fun h=> ?_) (fun h=> ?_)<;>(try simp only[wr]at h)
 ·have e:c0S ⟨piv,hk,kid,hc,ctx,g⟩=([],1):=by unfold c0S;rw[if_pos h]
  rw[e]
  refine zB (zr ?_)
  refine zc ?_
  refine zc (zE (zm (yR (y0 ?_))))
  refine AQ.g ?_
  refine G.nilRo 2 rfl ?_
  refine AQ.u ?_
  try dsimp only[List.map,List.eraseIdx,cA,cN]
  refine yP
 have hfl:=hfl h
 have e:c0S ⟨piv,hk,kid,hc,ctx,g⟩=if flg ⟨piv,hk,kid,hc,ctx,g⟩=0 then([],0)else(n0C ⟨piv,hk,kid,hc,ctx,g⟩,0):=by unfold c0S;rw[if_neg (by simpa using h)]
 rw[e]
 obtain⟨⟨a1,a2,a3,a4⟩, -⟩:=h
 simp only at*
 obtain⟨n,hn⟩: ∃n:Int,n=(b0O piv).length:=⟨_,rfl⟩
 have hu:=a0C (x:=((b0O piv).length:Int)) (by omega)
 rw[←hn]at hu
 refine yI (zm (zB (zr ?_)))
 refine zq ?_
 refine zt ?_
 refine wl (xl rfl Tryz.func112 rfl rfl rfl (h0U _)) ?_
 refine zc (zE (zm (zB (zr ?_))))
 refine zb ?_
 refine zR ?_
 refine yQ ?_
 refine zc (zE (zm (zB (zB (zr ?_)))))
 refine zq ?_
 refine zt (zE (zm ?_))
 simp only[hu,←hn]
 refine xh True [(1,_),(4,_)] [(5,.val (.int .u8 (bif hk then n+8 else n)))] [.blk B 52 6 [.val (.int .i64 piv),.val (.bool hk),roB kid,.val (.bool hc),roB ctx,.val (.bool g)]] (fun hb=> ?_) (fun hb=> ?_) (fun hj=> ?_)<;>try(try simp only[wr]at hb)
 ·subst hb
  refine zr ?_
  refine zb ?_
  refine wl (O.or_ rfl rfl rfl (n0g 3 (m:=8) (by decide) (by omega) (by omega))) ?_
  refine zc (zE ?_)
  refine zV
 ·subst hb
  refine yI ?_
  refine zV
 dsimp only[cA,cN]
 refine zm ?_
 obtain⟨n1,hn1⟩: ∃n1:Int,n1=bif hk then n+8 else n:=⟨_,rfl⟩
 have b1:0≤n1∧n1≤13:=by rw[hn1];cases hk<;>simp<;>omega
 rw[←hn1]
 refine zB (zB (zr ?_))
 refine zq ?_
 refine zt (zE (zm ?_))
 refine xh True [(1,_),(4,_)] [(5,.val (.int .u8 (bif hc then n1+16 else n1)))] [.blk B 52 6 [.val (.int .i64 piv),.val (.bool hk),roB kid,.val (.bool hc),roB ctx,.val (.bool g)]] (fun hb=> ?_) (fun hb=> ?_) (fun hj=> ?_)<;>try(try simp only[wr]at hb)
 ·subst hb
  refine zr ?_
  refine zb ?_
  refine wl (O.or_ rfl rfl rfl (n0g 4 (m:=16) (by decide) (by omega) (by omega))) ?_
  refine zc (zE ?_)
  refine zV
 ·subst hb
  refine yI ?_
  refine zV
 dsimp only[cA,cN]
 refine zm ?_
 obtain⟨n2,hn2⟩: ∃n2:Int,n2=bif hc then n1+16 else n1:=⟨_,rfl⟩
 have b2:0≤n2∧n2≤29:=by rw[hn2];cases hc<;>simp<;>omega
 rw[←hn2]
 refine zB (zB (zr ?_))
 refine zq ?_
 refine zt (zE (zm ?_))
 refine xh True [(1,_),(4,_)] [(5,.val (.int .u8 (bif g then n2+32 else n2)))] [.blk B 52 6 [.val (.int .i64 piv),.val (.bool hk),roB kid,.val (.bool hc),roB ctx,.val (.bool g)]] (fun hb=> ?_) (fun hb=> ?_) (fun hj=> ?_)<;>try(try simp only[wr]at hb)
 ·subst hb
  refine zr ?_
  refine zb ?_
  refine wl (O.or_ rfl rfl rfl (n0g 5 (m:=32) (by decide) (by omega) (by omega))) ?_
  refine zc (zE ?_)
  refine zV
 ·subst hb
  refine yI ?_
  refine zV
 dsimp only[cA,cN]
 refine zm ?_
 have hf:(bif g then n2+32 else n2)=flg ⟨piv,hk,kid,hc,ctx,g⟩:=by
  rw[hn2,hn1,hn];unfold flg;cases hk<;>cases hc<;>cases g<;>simp
 rw[hf]
 obtain⟨f,hfd⟩: ∃f,f=flg ⟨piv,hk,kid,hc,ctx,g⟩:=⟨_,rfl⟩
 rw[←hfd]at hfl⊢
 refine zB (zB (zr ?_))
 refine zb ?_
 refine yh (zE (zm ?_))
 refine yk (fun hz=> ?_) (fun hz=> ?_)<;>(try simp only[wr]at hz)
 ·rw[if_pos hz]
  refine zB (zr ?_)
  refine zc ?_
  refine zc (zE (zm (yR (y0 ?_))))
  refine AQ.g ?_
  refine G.nilRo 2 rfl ?_
  refine AQ.u ?_
  try dsimp only[List.map,List.eraseIdx,cA,cN]
  refine yP
 have hfu:=a0C (x:=f) (by omega)
 rw[if_neg hz]
 refine yI (zm (zB (zr ?_)))
 refine zb ?_
 refine zQ ?_
 intro B
 refine AO.g ?_
 refine G.closeRow (b:=B) (n:=1) (cap:=1) 0 rfl rfl rfl (Nat.le_refl _) (by(unfold maxLen;omega)) ?_
 refine AO.u ?_
 dsimp only[List.set]
 refine zb ?_
 refine z7 0 ?_
 intro V hV
 refine zc (zE (zm (zB (zB (zr ?_)))))
 refine zq ?_
 refine zv (zE (zm ?_))
 have hfu2:(f:Int)=((u8 f).toNat:Int):=hfu.symm
 have e2:n0C ⟨piv,hk,kid,hc,ctx,g⟩=u8 f::b0O piv++(if hc then u8 ctx.length::ctx else [])++kid:=by unfold n0C;rw[←hfd]
 rw[e2]
 refine yk (fun hb=> ?_) (fun hb=> ?_)
 ·subst hb
  have hu2:=a0C (x:=(ctx.length:Int)) (by omega)
  refine AW.regionM [(0,false),(1,false),(2,false),(3,false),(4,false),(5,false),(7,false),(8,false),(6,true),(9,true),(10,true)] (by kernel_rfl) (by kernel_rfl) (by exact(by exact d0A 6 0 rfl rfl a0D)) ?_
  dsimp only[List.eraseIdx]
  refine xg ?_
  refine wn rfl zx ?_
  refine wn rfl zg ?_
  refine wn rfl (xm rfl rfl) ?_
  refine wn rfl (O.conv rfl rfl d0o) ?_
  refine xZ ?_
  refine wn rfl zx ?_
  refine wn rfl zg ?_
  refine AM.main _ rfl (fun w0 R0=> ?_)
  refine AO.append' (i:=0) rfl rfl rfl rfl (by rfl) (by rfl) rfl rfl rfl (by exact SrcA.ro TyD.ax (by rfl) (lB rfl)) (by rfl) (by(unfold maxLen;omega)) (by omega) (by(dsimp only[List.set,List.append,cA,cN,a0c,a0n,AV.cells,List.map,List.map_cons,List.map_nil,List.take,List.drop,Nat.zero_add,Nat.add_zero,Nat.reduceAdd,Nat.reduceMul,Nat.zero_mul,Value.cells,List.toList_toArray,a0o,List.replicate,List.flatten,cP];done)) (fun _=>by(dsimp only[List.set];done)) ?_
  intro V hV
  refine AM.ok ?_
  dsimp only[b0d]
  refine AM.main _ rfl (fun w0 R0=> ?_)
  refine z7 0 ?_
  intro V hV
  refine AM.ok ?_
  dsimp only[b0d]
  refine AM.main _ rfl (fun w0 R0=> ?_)
  refine zc ?_
  refine AM.ok ?_
  dsimp only[b0d]
  refine AM.nil ?_
  dsimp only[cA,cN]
  refine zm (zB (zr ?_))
  refine zb ?_
  refine zq ?_
  refine zv ?_
  refine z7 0 ?_
  intro V hV
  refine zc ?_
  refine zc (zE (zm (yR ?_)))
  refine AQ.g ?_
  refine z9 0 [2] ?_
  refine AQ.u ?_
  try dsimp only[List.map,List.eraseIdx,cA,cN]
  refine AQ.ret2 rfl rfl rfl nS (⟨congrArg (fun z=>AV.tup [z,.val (.int .i64 0)]) (b0M (by simp;omega) (by simp[a0a,hfu,hu2])),rfl⟩)
 subst hb
 refine yI (zm (zB (zr ?_)))
 refine zb ?_
 refine zq ?_
 refine zv ?_
 refine z7 0 ?_
 intro V hV
 refine zc ?_
 refine zc (zE (zm (yR ?_)))
 refine AQ.g ?_
 refine z9 0 [2] ?_
 refine AQ.u ?_
 try dsimp only[List.map,List.eraseIdx,cA,cN]
 refine AQ.ret2 rfl rfl rfl nS (⟨congrArg (fun z=>AV.tup [z,.val (.int .i64 0)]) (b0M (by simp;omega) (by simp[a0a,hfu])),rfl⟩)
theorem g0w: ∀(n:Nat) (out:List UInt8),out≠ []→i0S n out≠ []:=by
 intro n
 induction n using Nat.strongRecOn with
 |_ n ih=>
  intro out h
  by_cases h0:n=0
  ·subst h0;rw[a0Z];exact h
  rw[a0P h0];exact ih _ (Nat.div_lt_self (by omega) (by omega)) _ (by simp)
theorem k0X {n:Int}(h:n≤1099511627775):(b0O n).length=0↔n<0:=by
 unfold b0O
 split
 ·simp;omega
 have:=g0w (n.toNat/256) [u8 n] (by simp)
 constructor
 ·intro h;exact absurd (List.eq_nil_of_length_eq_zero h) this
 intro h;omega
theorem g0L (c:Cmp):Sp Tryz.prog 23 [k0D c] [] (Is (.tup [roB (c0S c).1,.val (.int .i64 (c0S c).2)])):=by
 have hfl:=m0g (c:=c)
 have hpl:=c0e c.piv
 obtain⟨piv,hk,kid,hc,ctx,g⟩:=c
 refine yr Tryz.func23 _ Tryz.ntmps23 (fun w0 R0=> ?_)
 refine zB (zr ?_)
 refine ya ?_
 intro B
 refine zc ?_
 refine zc (zE (zm (zB (zB (zr ?_)))))
 refine zy ?_
 refine wl (xl rfl Tryz.func73 rfl rfl rfl (i0n ⟨_,_,_,_,_,_⟩)) ?_
 refine xf (zE (zm ?_))
 refine yk (fun h=> ?_) (fun h=> ?_)<;>(try simp only[wr]at h)
 ·have e:c0S ⟨piv,hk,kid,hc,ctx,g⟩=([],1):=by unfold c0S;rw[if_pos h]
  rw[e]
  refine zB (zr ?_)
  refine zc ?_
  refine zc (zE (zm (yR (y0 ?_))))
  refine AQ.g ?_
  refine G.nilRo 2 rfl ?_
  refine AQ.u ?_
  try dsimp only[List.map,List.eraseIdx,cA,cN]
  refine yP
 have hfl:=hfl h
 have e:c0S ⟨piv,hk,kid,hc,ctx,g⟩=if flg ⟨piv,hk,kid,hc,ctx,g⟩=0 then([],0)else(n0C ⟨piv,hk,kid,hc,ctx,g⟩,0):=by unfold c0S;rw[if_neg (by simpa using h)]
 rw[e]
 obtain⟨⟨a1,a2,a3,a4⟩, -⟩:=h
 simp only at*
 have hnil:=k0X a2
 have hnil':b0O piv= []↔piv<0:=by rw[←List.length_eq_zero_iff];exact hnil
 have hz0:flg ⟨piv,hk,kid,hc,ctx,g⟩=0↔(piv= -1∧hk=false∧hc=false∧g=false):=by
  unfold flg
  cases hk<;>cases hc<;>cases g<;>simp[hnil']<;>omega
 refine yI (zm (zB (zB (zr ?_))))
 refine zq ?_
 refine zt ?_
 refine yh ?_
 refine zb ?_
 refine zJ ?_
 refine zl 14 ?_
 refine y3 15 ?_
 refine zO ?_
 refine zb ?_
 refine zJ ?_
 refine zl 19 ?_
 refine y3 20 ?_
 refine zO ?_
 refine zb ?_
 refine zJ ?_
 refine zl 24 ?_
 refine y3 25 ?_
 refine zO (zE (zm ?_))
 refine yk (fun hz=> ?_) (fun hz=> ?_)
 ·have hz:flg ⟨piv,hk,kid,hc,ctx,g⟩=0:=hz0.2 (by simpa[and_assoc]using hz)
  rw[if_pos hz]
  refine zB (zr ?_)
  refine zc ?_
  refine zc (zE (zm (yR (y0 ?_))))
  refine AQ.g ?_
  refine G.nilRo 2 rfl ?_
  refine AQ.u ?_
  try dsimp only[List.map,List.eraseIdx,cA,cN]
  refine yP
 have hz: ¬flg ⟨piv,hk,kid,hc,ctx,g⟩=0:=fun e=>by
  obtain⟨rfl,rfl,rfl,rfl⟩:=hz0.1 e
  simp at hz
 rw[if_neg hz]
 obtain⟨n,hn⟩: ∃n:Int,n=(b0O piv).length:=⟨_,rfl⟩
 refine yI (zm (zB (zr ?_)))
 refine zq ?_
 refine zt ?_
 refine wl (xl rfl Tryz.func74 rfl rfl rfl (j0z _)) ?_
 refine zc (zE (zm (zB (zr ?_))))
 refine zb ?_
 refine zR ?_
 refine zc (zE (zm (zB (zB (zr ?_)))))
 refine zq ?_
 refine zt (zE (zm ?_))
 simp only[←hn]
 refine xh True [(1,_),(4,_)] [(5,.val (.int .i64 (bif hk then n+8 else n)))] [.blk B 52 6 [.val (.int .i64 piv),.val (.bool hk),roB kid,.val (.bool hc),roB ctx,.val (.bool g)]] (fun hb=> ?_) (fun hb=> ?_) (fun hj=> ?_)<;>try(try simp only[wr]at hb)
 ·subst hb
  refine zr ?_
  refine zb ?_
  refine zA ?_
  refine zc (zE ?_)
  refine zV
 ·subst hb
  refine yI ?_
  refine zV
 dsimp only[cA,cN]
 refine zm ?_
 obtain⟨n1,hn1⟩: ∃n1:Int,n1=bif hk then n+8 else n:=⟨_,rfl⟩
 have b1:0≤n1∧n1≤13:=by rw[hn1];cases hk<;>simp<;>omega
 rw[←hn1]
 refine zB (zB (zr ?_))
 refine zq ?_
 refine zt (zE (zm ?_))
 refine xh True [(1,_),(4,_)] [(5,.val (.int .i64 (bif hc then n1+16 else n1)))] [.blk B 52 6 [.val (.int .i64 piv),.val (.bool hk),roB kid,.val (.bool hc),roB ctx,.val (.bool g)]] (fun hb=> ?_) (fun hb=> ?_) (fun hj=> ?_)<;>try(try simp only[wr]at hb)
 ·subst hb
  refine zr ?_
  refine zb ?_
  refine zA ?_
  refine zc (zE ?_)
  refine zV
 ·subst hb
  refine yI ?_
  refine zV
 dsimp only[cA,cN]
 refine zm ?_
 obtain⟨n2,hn2⟩: ∃n2:Int,n2=bif hc then n1+16 else n1:=⟨_,rfl⟩
 have b2:0≤n2∧n2≤29:=by rw[hn2];cases hc<;>simp<;>omega
 rw[←hn2]
 refine zB (zB (zr ?_))
 refine zq ?_
 refine zt (zE (zm ?_))
 refine xh True [(1,_),(4,_)] [(5,.val (.int .i64 (bif g then n2+32 else n2)))] [.blk B 52 6 [.val (.int .i64 piv),.val (.bool hk),roB kid,.val (.bool hc),roB ctx,.val (.bool g)]] (fun hb=> ?_) (fun hb=> ?_) (fun hj=> ?_)<;>try(try simp only[wr]at hb)
 ·subst hb
  refine zr ?_
  refine zb ?_
  refine zA ?_
  refine zc (zE ?_)
  refine zV
 ·subst hb
  refine yI ?_
  refine zV
 dsimp only[cA,cN]
 refine zm ?_
 have hf:(bif g then n2+32 else n2)=flg ⟨piv,hk,kid,hc,ctx,g⟩:=by
  rw[hn2,hn1,hn];unfold flg;cases hk<;>cases hc<;>cases g<;>simp
 rw[hf]
 have e2:n0C ⟨piv,hk,kid,hc,ctx,g⟩=u8 (flg ⟨piv,hk,kid,hc,ctx,g⟩)::b0O piv++(if hc then u8 ctx.length::ctx else [])++kid:=rfl
 rw[e2]
 obtain⟨f,hfd⟩: ∃f,f=flg ⟨piv,hk,kid,hc,ctx,g⟩:=⟨_,rfl⟩
 rw[←hfd]at hfl⊢
 refine zB (zr ?_)
 refine zb ?_
 refine yQ ?_
 refine zQ ?_
 intro B
 refine AO.g ?_
 refine G.closeRow (b:=B) (n:=1) (cap:=1) 0 rfl rfl rfl (Nat.le_refl _) (by(unfold maxLen;omega)) ?_
 refine AO.u ?_
 dsimp only[List.set]
 refine zb ?_
 refine zC 0 ?_
 intro V hV
 refine zc (zE (zm (zB (zB (zr ?_)))))
 refine zq ?_
 refine zv (zE (zm ?_))
 refine yk (fun hb=> ?_) (fun hb=> ?_)
 ·subst hb
  refine zB (zr ?_)
  refine zb ?_
  refine zq ?_
  refine zv ?_
  refine zR ?_
  refine yQ ?_
  refine zQ ?_
  intro B
  refine AO.g ?_
  refine z6 0 57 ?_
  refine xz 57 ?_
  refine AO.u ?_
  dsimp only[List.eraseIdx]
  refine zw 0 ?_
  intro V hV
  refine zc (zE (zm (zr ?_)))
  refine zb ?_
  refine zq ?_
  refine zv ?_
  refine zC 0 ?_
  intro V hV
  refine zc (zE (zm (zB (zr ?_))))
  refine zb ?_
  refine zq ?_
  refine zv ?_
  refine z7 0 ?_
  intro V hV
  refine zc ?_
  refine zc (zE (zm (yR ?_)))
  refine AQ.g ?_
  refine z9 0 [2] ?_
  refine AQ.u ?_
  try dsimp only[List.map,List.eraseIdx,cA,cN]
  refine AQ.ret2 rfl rfl rfl nS (⟨congrArg (fun z=>AV.tup [z,.val (.int .i64 0)]) (b0M (by simp;omega) (by simp[a0a])),rfl⟩)
 subst hb
 refine yI (zm (zB (zr ?_)))
 refine zb ?_
 refine zq ?_
 refine zv ?_
 refine z7 0 ?_
 intro V hV
 refine zc ?_
 refine zc (zE (zm (yR ?_)))
 refine AQ.g ?_
 refine z9 0 [2] ?_
 refine AQ.u ?_
 try dsimp only[List.map,List.eraseIdx,cA,cN]
 refine AQ.ret2 rfl rfl rfl nS (⟨congrArg (fun z=>AV.tup [z,.val (.int .i64 0)]) (b0M (by simp;omega) (by simp[a0a])),rfl⟩)
theorem h0S (a b:Cmp):Sp Tryz.prog 26 [k0D a,k0D b] [] (Is (.val (.bool (decide (a=b))))):=by
 obtain⟨p,hk,kid,hc,ctx,g⟩:=a
 obtain⟨p',hk',kid',hc',ctx',g'⟩:=b
 refine yr Tryz.func26 _ Tryz.ntmps26 (fun w0 R0=> ?_)
 refine zB (zr ?_)
 refine ya ?_
 intro B
 refine ya ?_
 intro B
 refine zc (zE (zm (zB (zr ?_))))
 refine zq ?_
 refine zv ?_
 refine zq ?_
 refine zt ?_
 refine yh ?_
 refine zb ?_
 refine zJ ?_
 refine yO 11 ?_
 refine zJ ?_
 refine zl 13 ?_
 refine AO.opG rfl rfl rfl (fun hp=>wo 12 rfl (by exact hp) (wo 14 rfl (by exact hp) (O.eqlB rfl rfl rfl (by rfl)))) ?_
 refine zO ?_
 refine zb ?_
 refine zJ ?_
 refine yO 18 ?_
 refine zJ ?_
 refine zl 20 ?_
 refine AO.opG rfl rfl rfl (fun hp=>wo 19 rfl (by exact hp) (wo 21 rfl (by exact hp) (xl rfl Tryz.func31 rfl rfl rfl (b0n _ _)))) ?_
 refine zO ?_
 refine zb ?_
 refine zJ ?_
 refine yO 25 ?_
 refine zJ ?_
 refine zl 27 ?_
 refine AO.opG rfl rfl rfl (fun hp=>wo 26 rfl (by exact hp) (wo 28 rfl (by exact hp) (O.eqlB rfl rfl rfl (by rfl)))) ?_
 refine zO ?_
 refine zb ?_
 refine zJ ?_
 refine yO 32 ?_
 refine zJ ?_
 refine zl 34 ?_
 refine AO.opG rfl rfl rfl (fun hp=>wo 33 rfl (by exact hp) (wo 35 rfl (by exact hp) (xl rfl Tryz.func31 rfl rfl rfl (b0n _ _)))) ?_
 refine zO ?_
 refine zb ?_
 refine zJ ?_
 refine yO 39 ?_
 refine zJ ?_
 refine zl 41 ?_
 refine AO.opG rfl rfl rfl (fun hp=>wo 40 rfl (by exact hp) (wo 42 rfl (by exact hp) (O.eqlB rfl rfl rfl (by rfl)))) ?_
 refine zO ?_
 refine zc (zE (zm (yR ?_)))
 have e:decide ((⟨p,hk,kid,hc,ctx,g⟩:Cmp)=⟨p',hk',kid',hc',ctx',g'⟩)=((p==p')&&(hk==hk')&&(kid==kid')&&(hc==hc')&&(ctx==ctx')&&(g==g')):=by
  refine g0p ?_
  simp only[Cmp.mk.injEq,Bool.and_eq_true,beq_iff_eq,and_assoc]
 refine AQ.ret1 rfl rfl nS (⟨congrArg (fun z=>AV.val (.bool z)) e.symm,rfl⟩)
def Cmp.zero:Cmp:=⟨0,false,[],false,[],false⟩
def o0d (f:Nat)(piv:Int)(hc:Bool)(ctx t:List UInt8):Cmp×Int:=
 if f&&&8=0 then(if 0<t.length then(.zero,9)else(⟨piv,false,[],hc,ctx,(((f&&&32:Nat):Int) !=0)⟩,0))
 else if 7<t.length then(.zero,8)else(⟨piv,true,t,hc,ctx,(((f&&&32:Nat):Int) !=0)⟩,0)
def i0M (f:Nat)(piv:Int)(s:List UInt8):Cmp×Int:=
 if f&&&16=0 then o0d f piv false [] s
 else if s.length=0 then(.zero,2)else if 16<(bt s 0).toNat then(.zero,8)else if s.length<1+(bt s 0).toNat then(.zero,2)else o0d f piv true ((s.drop 1).take (bt s 0).toNat) (s.drop (1+(bt s 0).toNat))
def q0A (f:Nat)(r:List UInt8):Cmp×Int:=
 if r.length<f%8 then(.zero,2)else if 0<f%8 then(if(c0I (r.take (f%8))).2≠0 then(.zero,(c0I (r.take (f%8))).2)else i0M f (c0I (r.take (f%8))).1 (r.drop (f%8)))else i0M f (-1) (r.drop (f%8))
def m0j (b:List UInt8):Cmp×Int:=
 if b.length=0 then(⟨-1,false,[],false,[],false⟩,0)else if 30<b.length then(.zero,8)
 else if(bt b 0).toNat=0∨64≤(bt b 0).toNat∨5<(bt b 0).toNat%8 then(.zero,4)else q0A (bt b 0).toNat (b.drop 1)
abbrev o0w (r:Cmp×Int):AV:= .tup [k0D r.1,.val (.int .i64 r.2)]
theorem c0r {q:AV}{r:Cmp×Int}{c:Cmp}{e:Int}(h:r=(c,e))(hq:q= .tup [k0D c,.val (.int .i64 e)]):Is (o0w r) q []:=by subst h;exact⟨hq,rfl⟩
theorem i0L (b:List UInt8):Sp Tryz.prog 70 [roB b] [] (Is (o0w (m0j b))):=by
 obtain⟨res,hres⟩: ∃res,m0j b=res:=⟨_,rfl⟩
 rw[hres]
 unfold m0j at hres
 refine yr Tryz.func70 _ Tryz.ntmps70 (fun w0 R0=> ?_)
 refine zB (zr ?_)
 refine zd ?_
 intro B
 refine zc (zE (zm (zB (zr ?_))))
 refine zT ?_
 refine zd ?_
 intro B
 refine za 0 (zE (zm (zB (zB (zr ?_)))))
 refine zb ?_
 refine zR ?_
 refine yh (zE (zm ?_))
 rename_i B1
 refine yk (fun h0=> ?_) (fun h0=> ?_)<;>(try simp only[wr]at h0)
 ·rw[if_pos (by omega)]at hres
  refine zB (zr ?_)
  refine zy ?_
  refine za 1 ?_
  refine zc (zE (zm (yR (y0 ?_))))
  refine wg zj zo (c0r hres.symm rfl)
 rw[if_neg (by omega)]at hres
 refine yI (zm (zB (zB (zr ?_))))
 refine zb ?_
 refine zR ?_
 refine yw (zE (zm ?_))
 refine yk (fun h1=> ?_) (fun h1=> ?_)<;>(try simp only[wr]at h1)
 ·rw[if_pos (by omega)]at hres
  refine zB (zr ?_)
  refine zT ?_
  refine za 1 ?_
  refine zc (zE (zm (yR (y0 ?_))))
  refine wg zj zo (c0r hres.symm rfl)
 rw[if_neg (by omega)]at hres
 have hx:=i0f (bt b 0)
 obtain⟨f,hf⟩: ∃f,f=(bt b 0).toNat:=⟨_,rfl⟩
 rw[←hf]at hres hx
 refine yI (zm (zB (zr ?_)))
 refine zb ?_
 refine z8 ?_
 refine wl (O.loadR rfl rfl (by exact c0N (k:=0) (by omega) rfl)) ?_
 refine zc (zE (zm (zB (zr ?_))))
 refine zb ?_
 refine wl (O.and_ rfl rfl rfl (q0K 3 (by decide) (by decide) (m:=8) (by decide) (by omega))) ?_
 refine wk ?_
 refine zc (zE (zm (zB (zB (zr ?_)))))
 refine zb ?_
 refine yh ?_
 refine zb ?_
 refine yl ?_
 refine AO.opG rfl rfl rfl (fun hp=>wo 28 rfl (by exact hp) (O.geq rfl rfl rfl (by rfl))) ?_
 refine zF ?_
 refine zb ?_
 refine yl ?_
 refine yb 32 ?_
 refine zF (zE (zm ?_))
 rw[←hf]
 refine yk (fun h2=> ?_) (fun h2=> ?_)<;>(try simp only[wr]at h2)
 ·rw[if_pos (by omega)]at hres
  refine zB (zr ?_)
  refine zT ?_
  refine za 1 ?_
  refine zc (zE (zm (yR (y0 ?_))))
  refine wg zj zo (c0r hres.symm rfl)
 rw[if_neg (by omega)]at hres
 unfold q0A at hres
 have hn8:(f:Int)%8=((f%8:Nat):Int):=by omega
 rw[hn8]
 obtain⟨n,hn⟩: ∃n,n=f%8:=⟨_,rfl⟩
 rw[←hn]at hres⊢
 have hn5:n≤5:=by omega
 refine yI (zm (zB (zr ?_)))
 refine zb ?_
 refine wl (O.and_ rfl rfl rfl (h0X (c:=32) (by omega) (by decide))) ?_
 refine yZ ?_
 refine zq ?_
 refine za 0 (zE (zm (zB (zr ?_))))
 refine zb ?_
 refine wl (O.sliceFromB (k:=1) rfl rfl rfl (by rfl) (by omega)) ?_
 refine zc (zE (zm (zB (zB (zr ?_)))))
 refine zb ?_
 refine zR ?_
 refine zb ?_
 refine zN (zE (zm ?_))
 have hl1:(b.drop 1).length=b.length-1:=by simp
 obtain⟨r,hr⟩: ∃r,r=b.drop 1:=⟨_,rfl⟩
 rw[←hr]at hres hl1⊢
 refine yk (fun h3=> ?_) (fun h3=> ?_)<;>(try simp only[wr]at h3)
 ·rw[if_pos (by omega)]at hres
  refine zB (zr ?_)
  refine zT ?_
  refine za 1 ?_
  refine zc (zE (zm (yR (y0 ?_))))
  refine wg zj zo (c0r hres.symm rfl)
 rw[if_neg (by omega)]at hres
 refine yI (zm (zB (zB (zr ?_))))
 refine zb ?_
 refine yw (zE (zm ?_))
 refine xh (i0M f (if 0<n then(c0I (r.take n)).1 else -1) (r.drop n)=res) [(2,_),(4,_),(5,_),(6,_)] [(0,roB r)] [.blk B 52 6 [.val (.int .i64 (if 0<n then(c0I (r.take n)).1 else -1)),.val (.bool false),.val (.slice none 0 0),.val (.bool false),.val (.slice none 0 0),.val (.bool ((((f&&&32:Nat):Int) !=0)))],.blk B1 52 6 [.val (.int .i64 0),.val (.bool false),.val (.slice none 0 0),.val (.bool false),.val (.slice none 0 0),.val (.bool false)]] (fun h4=> ?_) (fun h4=> ?_) (fun hj=> ?_)<;>try(try simp only[wr]at h4)
 ·have h4:0<n:=by omega
  rw[if_pos h4]at hres
  refine zB (zr ?_)
  refine zb ?_
  refine zb ?_
  refine wl (O.sliceToB rfl rfl rfl (by rfl) (by omega)) ?_
  refine wl (xl rfl Tryz.func129 rfl rfl rfl (j0N _)) ?_
  refine zb ?_
  refine zW ?_
  refine zW ?_
  refine zc ?_
  refine zc (zE (zm (zB (zB (zr ?_)))))
  refine zb ?_
  refine yZ (zE (zm ?_))
  refine yk (fun h5=> ?_) (fun h5=> ?_)<;>(try simp only[wr]at h5)
  ·rw[if_pos h5]at hres
   refine zB (zr ?_)
   refine zT ?_
   refine zb ?_
   refine za 1 ?_
   refine zc (zE (zm (yR (y0 ?_))))
   refine AQ.midR (y0 ?_)
   refine wg zj zo (c0r hres.symm rfl)
  rw[if_neg (by omega)]at hres
  rw[if_pos h4]
  refine yI (zm (zr ?_))
  refine zb ?_
  refine zq ?_
  refine za 0 (zE ?_)
  refine xj hres
 ·have h4: ¬0<n:=by omega
  rw[if_neg h4]at hres
  rw[if_neg h4]
  refine yI ?_
  refine xj hres
 dsimp only[cA,cN]
 refine zm ?_
 obtain⟨piv,hp⟩: ∃piv,piv=(if 0<n then(c0I (r.take n)).1 else -1):=⟨_,rfl⟩
 rw[←hp]at hj⊢
 clear hres
 refine zB (zr ?_)
 refine zb ?_
 refine zb ?_
 refine wl (O.sliceFromB rfl rfl rfl (by rfl) (by omega)) ?_
 refine zc (zE (zm (zB (zB (zr ?_)))))
 refine zb ?_
 refine wl (O.and_ rfl rfl rfl (h0X (c:=16) (by omega) (by decide))) ?_
 refine yZ (zE (zm ?_))
 have hl2:(r.drop n).length=r.length-n:=by simp
 obtain⟨s,hs⟩: ∃s,s=r.drop n:=⟨_,rfl⟩
 rw[←hs]at hj hl2⊢
 unfold i0M at hj
 have hfl: ∀c:Nat,((f&&&c:Nat):Int)=0↔f&&&c=0:=fun c=>by omega
 refine yk (fun h6=> ?_) (fun h6=> ?_)<;>(try simp only[wr]at h6)
 ·rw[if_neg (by omega)]at hj
  refine zB (zB (zr ?_))
  refine zb ?_
  refine zR ?_
  refine yh (zE (zm ?_))
  refine yk (fun h7=> ?_) (fun h7=> ?_)<;>(try simp only[wr]at h7)
  ·rw[if_pos (by omega)]at hj
   refine zB (zr ?_)
   refine zT ?_
   refine za 1 ?_
   refine zc (zE (zm (yR (y0 (y0 ?_)))))
   refine wg zj zo (c0r hj.symm rfl)
  rw[if_neg (by omega)]at hj
  have hxs:=i0f (bt s 0)
  obtain⟨m,hm⟩: ∃m,m=(bt s 0).toNat:=⟨_,rfl⟩
  rw[←hm]at hj hxs
  refine yI (zm (zB (zr ?_)))
  refine zb ?_
  refine z8 ?_
  refine wl (O.loadR rfl rfl (by exact c0N (k:=0) (by omega) rfl)) ?_
  refine wk ?_
  refine zc (zE (zm (zB (zB (zr ?_)))))
  refine zb ?_
  refine yw (zE (zm ?_))
  rw[←hm]
  refine yk (fun h8=> ?_) (fun h8=> ?_)<;>(try simp only[wr]at h8)
  ·rw[if_pos (by omega)]at hj
   refine zB (zr ?_)
   refine zT ?_
   refine za 1 ?_
   refine zc (zE (zm (yR (y0 (y0 ?_)))))
   refine wg zj zo (c0r hj.symm rfl)
  rw[if_neg (by omega)]at hj
  refine yI (zm (zB (zB (zr ?_))))
  refine zb ?_
  refine zR ?_
  refine zb ?_
  refine zA ?_
  refine zN (zE (zm ?_))
  refine yk (fun h9=> ?_) (fun h9=> ?_)<;>(try simp only[wr]at h9)
  ·rw[if_pos (by omega)]at hj
   refine zB (zr ?_)
   refine zT ?_
   refine za 1 ?_
   refine zc (zE (zm (yR (y0 (y0 ?_)))))
   refine wg zj zo (c0r hj.symm rfl)
  rw[if_neg (by omega)]at hj
  have hl3:(s.drop (1+m)).length=s.length-(1+m):=by simp
  have e9:(s.drop 1).take (1+m-1)=(s.drop 1).take m:=by rw[show 1+m-1=m by omega]
  refine yI (zm (zB (zr ?_)))
  refine zb ?_
  refine zb ?_
  refine zA ?_
  refine wl (O.sliceLHB rfl rfl rfl rfl (lo:=1) (hi:=1+m) (by rfl) (by rfl) (by omega) (by omega)) ?_
  refine AO.opRow (O.appendNil rfl (by rfl) (by rfl) rfl rfl (by exact SrcA.ro TyD.ax (by(simp;done)) (lB rfl)) (by(simp[AV.cells,AV.one, *];done)) (by(unfold maxLen;simp only[List.length_take,List.length_drop,cH,cL,cE,List.length_set,Nat.zero_add];omega)) (by(simp only[List.length_take,List.length_drop,cH,cL,cE,List.length_set,Nat.zero_add];omega))) rfl rfl rfl ?_
  intro V hV
  refine AO.g ?_
  refine yG 0 [89] ?_
  refine AO.u ?_
  dsimp only[List.map,List.eraseIdx,cA,cN]
  refine zq ?_
  refine za 0 ?_
  refine zq ?_
  refine za 0 (zE (zm (zr ?_)))
  refine zb ?_
  refine zb ?_
  refine zA ?_
  refine wl (O.sliceFromB (k:=1+m) rfl rfl rfl (by rfl) (by omega)) ?_
  refine zc (zE (zm (zB (zB (zr ?_)))))
  refine zb ?_
  refine wl (O.and_ rfl rfl rfl (h0X (c:=8) (by omega) (by decide))) ?_
  refine yh (zE (zm ?_))
  rw[e9]
  unfold o0d at hj
  refine yk (fun h7=> ?_) (fun h7=> ?_)<;>(try simp only[wr]at h7)
  ·rw[if_pos (by omega)]at hj
   refine zB (zB (zr ?_))
   refine zb ?_
   refine zR ?_
   refine yw (zE (zm ?_))
   refine yk (fun h8=> ?_) (fun h8=> ?_)<;>(try simp only[wr]at h8)
   ·rw[if_pos (by omega)]at hj
    refine zB (zr ?_)
    refine zT ?_
    refine za 1 ?_
    refine zc (zE (zm (yR (y0 (y0 ?_)))))
    refine wg zj zo (c0r hj.symm rfl)
   rw[if_neg (by omega)]at hj
   refine yI (zm (zB (zr ?_)))
   refine zy ?_
   refine za 1 ?_
   refine zc (zE (zm (yR (y0 ?_))))
   refine wg zj zo (c0r hj.symm rfl)
  rw[if_neg (by omega)]at hj
  refine yI (zm (zB (zB (zr ?_))))
  refine zb ?_
  refine zR ?_
  refine yw (zE (zm ?_))
  refine yk (fun h8=> ?_) (fun h8=> ?_)<;>(try simp only[wr]at h8)
  ·rw[if_pos (by omega)]at hj
   refine zB (zr ?_)
   refine zT ?_
   refine za 1 ?_
   refine zc (zE (zm (yR (y0 ?_))))
   refine wg zj zo (c0r hj.symm rfl)
  rw[if_neg (by omega)]at hj
  refine yI (zm (zB (zr ?_)))
  refine zb ?_
  refine yf ?_
  intro V hV
  refine AO.g ?_
  refine yG 0 [109] ?_
  refine AO.u ?_
  dsimp only[List.map,List.eraseIdx,cA,cN]
  refine zq ?_
  refine za 0 ?_
  refine zq ?_
  refine za 0 (zE (zm (zB (zr ?_))))
  refine zy ?_
  refine za 1 ?_
  refine zc (zE (zm (yR ?_)))
  refine wg zj xk (c0r hj.symm rfl)
 rw[if_pos (by omega)]at hj
 unfold o0d at hj
 refine yI (zm (zB (zB (zr ?_))))
 refine zb ?_
 refine wl (O.and_ rfl rfl rfl (h0X (c:=8) (by omega) (by decide))) ?_
 refine yh (zE (zm ?_))
 refine yk (fun h7=> ?_) (fun h7=> ?_)<;>(try simp only[wr]at h7)
 ·rw[if_pos (by omega)]at hj
  refine zB (zB (zr ?_))
  refine zb ?_
  refine zR ?_
  refine yw (zE (zm ?_))
  refine yk (fun h8=> ?_) (fun h8=> ?_)<;>(try simp only[wr]at h8)
  ·rw[if_pos (by omega)]at hj
   refine zB (zr ?_)
   refine zT ?_
   refine za 1 ?_
   refine zc (zE (zm (yR (y0 (y0 ?_)))))
   refine wg zj zo (c0r hj.symm rfl)
  rw[if_neg (by omega)]at hj
  refine yI (zm (zB (zr ?_)))
  refine zy ?_
  refine za 1 ?_
  refine zc (zE (zm (yR (y0 ?_))))
  refine wg zj zo (c0r hj.symm rfl)
 rw[if_neg (by omega)]at hj
 refine yI (zm (zB (zB (zr ?_))))
 refine zb ?_
 refine zR ?_
 refine yw (zE (zm ?_))
 refine yk (fun h8=> ?_) (fun h8=> ?_)<;>(try simp only[wr]at h8)
 ·rw[if_pos (by omega)]at hj
  refine zB (zr ?_)
  refine zT ?_
  refine za 1 ?_
  refine zc (zE (zm (yR (y0 ?_))))
  refine wg zj zo (c0r hj.symm rfl)
 rw[if_neg (by omega)]at hj
 refine yI (zm (zB (zr ?_)))
 refine zb ?_
 refine yf ?_
 intro V hV
 refine AO.g ?_
 refine yG 0 [109] ?_
 refine AO.u ?_
 dsimp only[List.map,List.eraseIdx,cA,cN]
 refine zq ?_
 refine za 0 ?_
 refine zq ?_
 refine za 0 (zE (zm (zB (zr ?_))))
 refine zy ?_
 refine za 1 ?_
 refine zc (zE (zm (yR ?_)))
 refine wg zj zo (c0r hj.symm rfl)
theorem g0M (b:List UInt8):Sp Tryz.prog 72 [roB b] [] (Is (o0w (m0j b))):=by
 obtain⟨res,hres⟩: ∃res,m0j b=res:=⟨_,rfl⟩
 rw[hres]
 unfold m0j at hres
 refine yr Tryz.func72 _ Tryz.ntmps72 (fun w0 R0=> ?_)
 refine zB (zr ?_)
 refine zd ?_
 intro B
 refine zc (zE (zm (zB (zr ?_))))
 refine zT ?_
 refine zd ?_
 intro B
 refine za 0 (zE (zm (zB (zB (zr ?_)))))
 refine zb ?_
 refine zR ?_
 refine yw (zE (zm ?_))
 rename_i B1
 refine yk (fun h0=> ?_) (fun h0=> ?_)<;>(try simp only[wr]at h0)
 ·rw[if_neg (by omega),if_pos (by omega)]at hres
  refine zB (zr ?_)
  refine zT ?_
  refine za 1 ?_
  refine zc (zE (zm (yR (y0 ?_))))
  refine wg zj zo (c0r hres.symm rfl)
 refine yI (zm (zB (zB (zr ?_))))
 refine zb ?_
 refine zR ?_
 refine yh (zE (zm ?_))
 refine yk (fun h1=> ?_) (fun h1=> ?_)<;>(try simp only[wr]at h1)
 ·rw[if_pos (by omega)]at hres
  refine zB (zr ?_)
  refine zy ?_
  refine za 1 ?_
  refine zc (zE (zm (yR (y0 ?_))))
  refine wg zj zo (c0r hres.symm rfl)
 rw[if_neg (by omega),if_neg (by omega)]at hres
 have hx:=i0f (bt b 0)
 obtain⟨f,hf⟩: ∃f,f=(bt b 0).toNat:=⟨_,rfl⟩
 rw[←hf]at hres hx
 refine yI (zm (zB (zr ?_)))
 refine zb ?_
 refine z8 ?_
 refine wl (O.loadR rfl rfl (by exact c0N (k:=0) (by omega) rfl)) ?_
 refine wk ?_
 refine zc (zE (zm (zB (zr ?_))))
 refine zb ?_
 refine wl (O.rem rfl rfl rfl (by omega) rfl) ?_
 refine zc (zE (zm (zB (zB (zr ?_)))))
 refine zb ?_
 refine yh ?_
 refine zb ?_
 refine yl ?_
 refine yb 28 ?_
 refine zF ?_
 refine zb ?_
 refine yl ?_
 refine yb 32 ?_
 refine zF (zE (zm ?_))
 rw[←hf]
 have htm:(f:Int).tmod 8=(f:Int)%8:=Int.tmod_eq_emod_of_nonneg (by omega)
 simp only[htm]
 refine yk (fun h2=> ?_) (fun h2=> ?_)<;>(try simp only[wr]at h2)
 ·rw[if_pos (by omega)]at hres
  refine zB (zr ?_)
  refine zT ?_
  refine za 1 ?_
  refine zc (zE (zm (yR (y0 ?_))))
  refine wg zj zo (c0r hres.symm rfl)
 rw[if_neg (by omega)]at hres
 unfold q0A at hres
 have hn8:(f:Int)%8=((f%8:Nat):Int):=by omega
 rw[hn8]
 obtain⟨n,hn⟩: ∃n,n=f%8:=⟨_,rfl⟩
 rw[←hn]at hres⊢
 have hn5:n≤5:=by omega
 refine yI (zm (zB (zr ?_)))
 refine zb ?_
 refine wl (O.and_ rfl rfl rfl (h0n (c:=8) (by omega) (by decide))) ?_
 refine yZ ?_
 refine zb ?_
 refine wl (O.and_ rfl rfl rfl (h0n (c:=16) (by omega) (by decide))) ?_
 refine yZ ?_
 refine zb ?_
 refine wl (O.and_ rfl rfl rfl (h0n (c:=32) (by omega) (by decide))) ?_
 refine yZ ?_
 refine zq ?_
 refine za 0 ?_
 refine zq ?_
 refine za 0 ?_
 refine zq ?_
 refine za 0 (zE (zm (zB (zr ?_))))
 refine zb ?_
 refine wl (O.sliceFromB (k:=1) rfl rfl rfl (by rfl) (by omega)) ?_
 refine zc (zE (zm (zB (zB (zr ?_)))))
 refine zb ?_
 refine zR ?_
 refine zb ?_
 refine zN (zE (zm ?_))
 have hl1:(b.drop 1).length=b.length-1:=by simp
 obtain⟨r,hr⟩: ∃r,r=b.drop 1:=⟨_,rfl⟩
 rw[←hr]at hres hl1⊢
 refine yk (fun h3=> ?_) (fun h3=> ?_)<;>(try simp only[wr]at h3)
 ·rw[if_pos (by omega)]at hres
  refine zB (zr ?_)
  refine zT ?_
  refine za 1 ?_
  refine zc (zE (zm (yR (y0 ?_))))
  refine wg zj zo (c0r hres.symm rfl)
 rw[if_neg (by omega)]at hres
 refine yI (zm (zB (zB (zr ?_))))
 refine zb ?_
 refine yw (zE (zm ?_))
 refine xh (i0M f (if 0<n then(c0I (r.take n)).1 else -1) (r.drop n)=res) [(2,_),(4,_),(6,_)] [(0,roB r)] [.blk B 52 6 [.val (.int .i64 (if 0<n then(c0I (r.take n)).1 else -1)),.val (.bool (((f&&&8:Nat):Int) !=0)),.val (.slice none 0 0),.val (.bool (((f&&&16:Nat):Int) !=0)),.val (.slice none 0 0),.val (.bool (((f&&&32:Nat):Int) !=0))],.blk B1 52 6 [.val (.int .i64 0),.val (.bool false),.val (.slice none 0 0),.val (.bool false),.val (.slice none 0 0),.val (.bool false)]] (fun h4=> ?_) (fun h4=> ?_) (fun hj=> ?_)<;>try(try simp only[wr]at h4)
 ·have h4:0<n:=by omega
  rw[if_pos h4]at hres
  refine zB (zr ?_)
  refine zb ?_
  refine zb ?_
  refine wl (O.sliceToB rfl rfl rfl (by rfl) (by omega)) ?_
  refine wl (xl rfl Tryz.func130 rfl rfl rfl (i0l _)) ?_
  refine zb ?_
  refine zW ?_
  refine zW ?_
  refine zc ?_
  refine zc (zE (zm (zB (zB (zr ?_)))))
  refine zb ?_
  refine yZ (zE (zm ?_))
  refine yk (fun h5=> ?_) (fun h5=> ?_)<;>(try simp only[wr]at h5)
  ·rw[if_pos h5]at hres
   refine zB (zr ?_)
   refine zT ?_
   refine zb ?_
   refine za 1 ?_
   refine zc (zE (zm (yR (y0 ?_))))
   refine AQ.midR (y0 ?_)
   refine wg zj zo (c0r hres.symm rfl)
  rw[if_neg (by omega)]at hres
  rw[if_pos h4]
  refine yI (zm (zr ?_))
  refine zb ?_
  refine zq ?_
  refine za 0 (zE ?_)
  refine xj hres
 ·have h4: ¬0<n:=by omega
  rw[if_neg h4]at hres
  rw[if_neg h4]
  refine yI ?_
  refine xj hres
 dsimp only[cA,cN]
 refine zm ?_
 obtain⟨piv,hp⟩: ∃piv,piv=(if 0<n then(c0I (r.take n)).1 else -1):=⟨_,rfl⟩
 rw[←hp]at hj⊢
 clear hres
 refine zB (zr ?_)
 refine zb ?_
 refine zb ?_
 refine wl (O.sliceFromB rfl rfl rfl (by rfl) (by omega)) ?_
 refine zc (zE (zm (zB (zB (zr ?_)))))
 refine zq ?_
 refine zt (zE (zm ?_))
 have hl2:(r.drop n).length=r.length-n:=by simp
 obtain⟨s,hs⟩: ∃s,s=r.drop n:=⟨_,rfl⟩
 rw[←hs]at hj hl2⊢
 unfold i0M at hj
 have hfl: ∀c:Nat,((f&&&c:Nat):Int)=0↔f&&&c=0:=fun c=>by omega
 refine yk (fun h6=> ?_) (fun h6=> ?_)<;>(try simp only[wr]at h6)
 ·have hb16:(((f&&&16:Nat):Int) !=0)=true:=bne_iff_ne.2 (by omega)
  rw[if_neg (by omega)]at hj
  refine zB (zB (zr ?_))
  refine zb ?_
  refine zR ?_
  refine yh (zE (zm ?_))
  refine yk (fun h7=> ?_) (fun h7=> ?_)<;>(try simp only[wr]at h7)
  ·rw[if_pos (by omega)]at hj
   refine zB (zr ?_)
   refine zT ?_
   refine za 1 ?_
   refine zc (zE (zm (yR (y0 (y0 ?_)))))
   refine wg zj zo (c0r hj.symm rfl)
  rw[if_neg (by omega)]at hj
  have hxs:=i0f (bt s 0)
  obtain⟨m,hm⟩: ∃m,m=(bt s 0).toNat:=⟨_,rfl⟩
  rw[←hm]at hj hxs
  refine yI (zm (zB (zr ?_)))
  refine zb ?_
  refine z8 ?_
  refine wl (O.loadR rfl rfl (by exact c0N (k:=0) (by omega) rfl)) ?_
  refine wk ?_
  refine zc (zE (zm (zB (zB (zr ?_)))))
  refine zb ?_
  refine yw (zE (zm ?_))
  rw[←hm]
  refine yk (fun h8=> ?_) (fun h8=> ?_)<;>(try simp only[wr]at h8)
  ·rw[if_pos (by omega)]at hj
   refine zB (zr ?_)
   refine zT ?_
   refine za 1 ?_
   refine zc (zE (zm (yR (y0 (y0 ?_)))))
   refine wg zj zo (c0r hj.symm rfl)
  rw[if_neg (by omega)]at hj
  refine yI (zm (zB (zB (zr ?_))))
  refine zb ?_
  refine zR ?_
  refine zb ?_
  refine zA ?_
  refine zN (zE (zm ?_))
  refine yk (fun h9=> ?_) (fun h9=> ?_)<;>(try simp only[wr]at h9)
  ·rw[if_pos (by omega)]at hj
   refine zB (zr ?_)
   refine zT ?_
   refine za 1 ?_
   refine zc (zE (zm (yR (y0 (y0 ?_)))))
   refine wg zj zo (c0r hj.symm rfl)
  rw[if_neg (by omega)]at hj
  have hl3:(s.drop (1+m)).length=s.length-(1+m):=by simp
  have e9:(s.drop 1).take (1+m-1)=(s.drop 1).take m:=by rw[show 1+m-1=m by omega]
  refine yI (zm ?_)
  refine AW.regionM [(0,false),(1,false),(2,false),(3,false),(4,false),(5,false),(6,false),(7,false),(8,false),(9,false),(10,true),(11,true)] (by kernel_rfl) (by kernel_rfl) (by exact(by exact a0G 4 0 rfl rfl a0D)) ?_
  dsimp only[List.eraseIdx]
  refine xg ?_
  refine xg ?_
  refine wn rfl zI ?_
  refine wn rfl (O.sliceLHB rfl rfl rfl rfl (lo:=1) (hi:=1+m) (by rfl) (by rfl) (by omega) (by omega)) ?_
  (refine AM.op rfl (O.call rfl Tryz.func69 rfl rfl rfl (a0K _ (by(simp<;>omega)))) rfl rfl rfl ?_)
  refine xg ?_
  refine xg ?_
  refine wn rfl zI ?_
  refine wn rfl (O.sliceFromB (k:=1+m) rfl rfl rfl (by rfl) (by omega)) ?_
  refine wn rfl zx ?_
  refine AM.main _ rfl (fun w0 R0=> ?_)
  refine za 0 (AM.okN ?_)
  dsimp only[b0d]
  refine AM.main _ rfl (fun w0 R0=> ?_)
  refine zc ?_
  refine AM.ok ?_
  dsimp only[b0d]
  refine AM.nil ?_
  dsimp only[cA,cN]
  refine zm (zB (zB (zr ?_)))
  refine zq ?_
  refine zt ?_
  refine xf ?_
  refine zb ?_
  refine yl ?_
  refine zX 106 ?_
  refine yb 107 ?_
  refine zO (zE (zm ?_))
  rw[e9]
  unfold o0d at hj
  refine yk (fun h7=> ?_) (fun h7=> ?_)<;>(try simp only[wr]at h7)
  ·rw[if_pos (by omega),if_pos (by omega)]at hj
   refine zB (zr ?_)
   refine zT ?_
   refine za 1 ?_
   refine zc (zE (zm (yR (y0 ?_))))
   refine wg zj zo (c0r hj.symm rfl)
  refine yI (zm (zB (zB (zr ?_))))
  refine zb ?_
  refine zR ?_
  refine yw (zE (zm ?_))
  refine yk (fun h8=> ?_) (fun h8=> ?_)<;>(try simp only[wr]at h8)
  ·rw[if_neg (by omega),if_pos (by omega)]at hj
   refine zB (zr ?_)
   refine zT ?_
   refine za 1 ?_
   refine zc (zE (zm (yR (y0 ?_))))
   refine wg zj zo (c0r hj.symm rfl)
  by_cases h10:f&&&8=0
  ·rw[if_pos h10,if_neg (by omega)]at hj
   have hnil:s.drop (1+m)= []:=List.eq_nil_of_length_eq_zero (by omega)
   have hne:(((f&&&8:Nat):Int) !=0)=false:=bne_eq_false_iff_eq.2 (by omega)
   simp only[hne,hb16,hnil]
   refine yI (zm (zB (zr ?_)))
   refine zb ?_
   (refine AO.op (O.call rfl Tryz.func69 rfl rfl rfl (a0K _ (by(simp<;>omega)))) rfl rfl rfl ?_)
   refine zq ?_
   refine za 0 (zE (zm (zB (zr ?_))))
   refine zy ?_
   refine za 1 ?_
   refine zc (zE (zm (yR ?_)))
   refine wg zj xk (c0r hj.symm rfl)
  rw[if_neg h10,if_neg (by omega)]at hj
  have hne:(((f&&&8:Nat):Int) !=0)=true:=bne_iff_ne.2 (by omega)
  simp only[hne,hb16]
  refine yI (zm (zB (zr ?_)))
  refine zb ?_
  refine wl (xl rfl Tryz.func69 rfl rfl rfl (a0K _ (by omega))) ?_
  refine zq ?_
  refine za 0 (zE (zm (zB (zr ?_))))
  refine zy ?_
  refine za 1 ?_
  refine zc (zE (zm (yR ?_)))
  refine wg zj xk (c0r hj.symm rfl)
 rw[if_pos (by omega)]at hj
 have hb16:(((f&&&16:Nat):Int) !=0)=false:=bne_eq_false_iff_eq.2 (by omega)
 unfold o0d at hj
 refine yI (zm (zB (zB (zr ?_))))
 refine zq ?_
 refine zt ?_
 refine xf ?_
 refine zb ?_
 refine yl ?_
 refine zX 106 ?_
 refine yb 107 ?_
 refine zO (zE (zm ?_))
 refine yk (fun h7=> ?_) (fun h7=> ?_)<;>(try simp only[wr]at h7)
 ·rw[if_pos (by omega),if_pos (by omega)]at hj
  refine zB (zr ?_)
  refine zT ?_
  refine za 1 ?_
  refine zc (zE (zm (yR (y0 ?_))))
  refine wg zj zo (c0r hj.symm rfl)
 refine yI (zm (zB (zB (zr ?_))))
 refine zb ?_
 refine zR ?_
 refine yw (zE (zm ?_))
 refine yk (fun h8=> ?_) (fun h8=> ?_)<;>(try simp only[wr]at h8)
 ·rw[if_neg (by omega),if_pos (by omega)]at hj
  refine zB (zr ?_)
  refine zT ?_
  refine za 1 ?_
  refine zc (zE (zm (yR (y0 ?_))))
  refine wg zj zo (c0r hj.symm rfl)
 by_cases h10:f&&&8=0
 ·rw[if_pos h10,if_neg (by omega)]at hj
  have hnil:s= []:=List.eq_nil_of_length_eq_zero (by omega)
  have hne:(((f&&&8:Nat):Int) !=0)=false:=bne_eq_false_iff_eq.2 (by omega)
  simp only[hne,hb16,hnil]
  refine yI (zm (zB (zr ?_)))
  refine zb ?_
  (refine AO.op (O.call rfl Tryz.func69 rfl rfl rfl (a0K _ (by(simp<;>omega)))) rfl rfl rfl ?_)
  refine zq ?_
  refine za 0 (zE (zm (zB (zr ?_))))
  refine zy ?_
  refine za 1 ?_
  refine zc (zE (zm (yR ?_)))
  refine wg zj zo (c0r hj.symm rfl)
 rw[if_neg h10,if_neg (by omega)]at hj
 have hne:(((f&&&8:Nat):Int) !=0)=true:=bne_iff_ne.2 (by omega)
 simp only[hne,hb16]
 refine yI (zm (zB (zr ?_)))
 refine zb ?_
 refine wl (xl rfl Tryz.func69 rfl rfl rfl (a0K _ (by omega))) ?_
 refine zq ?_
 refine za 0 (zE (zm (zB (zr ?_))))
 refine zy ?_
 refine za 1 ?_
 refine zc (zE (zm (yR ?_)))
 refine wg zj zo (c0r hj.symm rfl)
end Go.Proofs.YtojomcdjcpmnkaaGreat.By
namespace Go.Proofs.YtojomcdjcpmnkaaGreat.By
open Go.RowKit L A
attribute [local irreducible] AW AQ AO
abbrev r0a (r:Msg×Int):AV:= .tup [b0s r.1,.val (.int .i64 r.2)]
end Go.Proofs.YtojomcdjcpmnkaaGreat.By
namespace Go.Proofs.YtojomcdjcpmnkaaGreat.By
open Go.RowKit L A
open Classical in
noncomputable def s0j (b:List UInt8):Msg×Int:=
 if 4096<b.length then(Msg.none,8)else if b.length<4 then(Msg.none,2)else if h: ∃m,OkM m∧raw m=b then(Classical.choose h,0)else(Msg.none,4)
def e0B (r:List UInt8)(bad:Bool)(n:Int):List UInt8×List UInt8×Bool:=if(r.length:Int)<n then(List.replicate (min n 4).toNat 0,r,true)else(r.take n.toNat,r.drop n.toNat,bad)
def o0a (r:List UInt8)(bad:Bool)(n:Int):Int×List UInt8×Bool:=
 if n=13 then(((bt (e0B r bad 1).1 0).toNat:Int)+13,(e0B r bad 1).2)
 else if n=14 then(((bt (e0B r bad 2).1 0).toNat:Int)*256+((bt (e0B r bad 2).1 1).toNat:Int)+269,(e0B r bad 2).2)
 else(n,r,if n=15 then true else bad)
theorem b0x (v t:List UInt8)(bad:Bool){n:Int}(h:n=v.length):e0B (v++t) bad n=(v,t,bad):=by
 subst h
 unfold e0B
 rw[if_neg (by simp;omega)]
 simp
theorem d0F {x:Int}(h:0≤x∧x≤65804)(t:List UInt8)(bad:Bool):o0a ((ext x).2++t) bad (ext x).1=(x,t,bad):=by
 unfold ext
 split
 ·unfold o0a;rw[if_neg (by simp;omega),if_neg (by simp;omega),if_neg (by simp;omega)];rfl
 split
 ·unfold o0a
  rw[if_pos rfl,b0x [u8 (x-13)] t bad (n:=1) rfl]
  have:=a0C (x:=x-13) (by omega)
  simp[bt]at this⊢
  omega
 unfold o0a
 rw[if_neg (by simp),if_pos rfl,b0x [u8 ((x-269)/256),u8 (x-269)] t bad (n:=2) rfl]
 have h1:=a0C (x:=(x-269)/256) (by omega)
 have h2:=c0c (x-269)
 simp[bt]at h1 h2⊢
 omega
def i0h (m:Msg):List UInt8:=if m.pay= []then []else 255::m.pay
def b0N (m:Msg)(k:Nat):List UInt8:=f0S (a0J 0 (m.opts.take k)) (m.opts.drop k)++i0h m
theorem j0r (m:Msg):raw m=f0B m++(m.tok++b0N m 0):=by simp[raw,b0N,i0h,a0J]
theorem h0w {m:Msg}{k:Nat}(h:m.opts.length≤k):b0N m k=i0h m:=by simp[b0N,List.drop_eq_nil_of_le h,f0S]
theorem d0Y {m:Msg}{k:Nat}(h:k<m.opts.length):b0N m k=u8 (16*(ext ((oat m.opts k).num-a0J 0 (m.opts.take k))).1+(ext ((oat m.opts k).val.length:Int)).1)::((ext ((oat m.opts k).num-a0J 0 (m.opts.take k))).2++((ext ((oat m.opts k).val.length:Int)).2++((oat m.opts k).val++b0N m (k+1)))):=by
 rw[b0N,g0n Opt.none h,f0S,hdr,b0N,a0i Opt.none h,b0m]
 simp
def Fits (b:List UInt8)(opts:List Opt)(last:Int)(r:List UInt8)(bad:Bool):Prop:=
 ∀m,OkM m→raw m=b→bad=false∧opts.length≤m.opts.length∧r=b0N m opts.length∧last=a0J 0 opts∧opts=m.opts.take opts.length
theorem Fits.more {b:List UInt8}{opts:List Opt}{last:Int}{r:List UInt8}{bad:Bool}(h:Fits b opts last r bad){m:Msg}(hm:OkM m)(hr:raw m=b)(h1:r≠ [])(h2:bt r 0≠255):opts.length<m.opts.length:=by
 obtain⟨-,h3,h4, -, -⟩:=h m hm hr
 rcases Nat.lt_or_ge opts.length m.opts.length with h5|h5
 ·exact h5
 rw[h0w h5,i0h]at h4
 split at h4
 ·exact absurd h4 h1
 subst h4;exact absurd rfl h2
theorem Fits.ends {b:List UInt8}{opts:List Opt}{last:Int}{r:List UInt8}{bad:Bool}(h:Fits b opts last r bad){m:Msg}(hm:OkM m)(hr:raw m=b)(h1:bad=true∨r= []∨bt r 0=255):bad=false∧opts=m.opts∧r=i0h m:=by
 obtain⟨h0,h3,h4,h6,h7⟩:=h m hm hr
 rcases Nat.lt_or_ge opts.length m.opts.length with h5|h5
 ·rw[d0Y h5]at h4
  have h8:=d0l hm.2.2.1 h5
  have h9:=d0I (b0D hm.2.2.1 opts.length) (by omega)
  have e1:=c0t ((oat m.opts opts.length).num-a0J 0 (m.opts.take opts.length)) (by omega)
  have e2:=c0t ((oat m.opts opts.length).val.length:Int) (by omega)
  rcases h1 with h1|h1|h1
  ·rw[h0]at h1;cases h1
  ·rw[h1]at h4;cases h4
  have e3:=a0C (x:=16*(ext ((oat m.opts opts.length).num-a0J 0 (m.opts.take opts.length))).1+(ext ((oat m.opts opts.length).val.length:Int)).1) (by omega)
  rw[h4]at h1
  have h1':u8 (16*(ext ((oat m.opts opts.length).num-a0J 0 (m.opts.take opts.length))).1+(ext ((oat m.opts opts.length).val.length:Int)).1)=255:=h1
  rw[h1']at e3
  have:((255:UInt8).toNat:Int)=255:=rfl
  omega
 refine⟨h0,?_,?_⟩
 ·rw[List.take_of_length_le h5]at h7;exact h7
 rw[h0w h5]at h4;exact h4
theorem Fits.parts {b:List UInt8}{opts:List Opt}{last:Int}{r:List UInt8}{bad:Bool}(h:Fits b opts last r bad){m:Msg}(hm:OkM m)(hr:raw m=b)(h1:r≠ [])(h2:bt r 0≠255):
  ∃o d n,opts.length<m.opts.length∧o=oat m.opts opts.length∧d=o.num-last∧n=(o.val.length:Int)∧0≤d∧d≤65535∧n≤1034∧((bt r 0).toNat:Int)=16*(ext d).1+(ext n).1∧r.drop 1=(ext d).2++((ext n).2++(o.val++b0N m (opts.length+1))):=by
 have h5:=h.more hm hr h1 h2
 obtain⟨h0,h3,h4,h6,h7⟩:=h m hm hr
 rw[d0Y h5,←h7,←h6]at h4
 have h8:=d0l hm.2.2.1 h5
 have h9:=d0I (b0D hm.2.2.1 opts.length) (by omega)
 rw[←h7,←h6]at h8 h9
 have e1:=c0t ((oat m.opts opts.length).num-last) (by omega)
 have e2:=c0t ((oat m.opts opts.length).val.length:Int) (by omega)
 refine⟨_,_,_,h5,rfl,rfl,rfl,by omega,by omega,by omega,?_,by rw[h4];rfl⟩
 rw[h4]
 exact a0C (by omega)
theorem Fits.step {b:List UInt8}{opts:List Opt}{last:Int}{r r1 r2 r3:List UInt8}{b1 b2 b3:Bool}{v1 v2:Int}{x:List UInt8}(h:Fits b opts last r false)(h1:r≠ [])(h2:bt r 0≠255)
  (e1:o0a (r.drop 1) false (((bt r 0).toNat:Int)/16)=(v1,r1,b1)) (e2:o0a r1 b1 (((bt r 0).toNat:Int)%16)=(v2,r2,b2)) (e3:e0B r2 b2 v2=(x,r3,b3)):Fits b (opts++[⟨last+v1,x⟩]) (last+v1) r3 b3:=fun m hm hr=>by
 obtain⟨o,d,n,h5,h6,h7,h8,h9,h10,h11,h12,h13⟩:=h.parts hm hr h1 h2
 obtain⟨-, -, -,h16,h17⟩:=h m hm hr
 have q1:=c0t d h9
 have q2:=c0t n (by omega)
 rw[h12,show(16*(ext d).1+(ext n).1)/16=(ext d).1 by omega,h13,d0F (by omega)]at e1
 simp only[Prod.mk.injEq]at e1
 obtain⟨e11,e12,e13⟩:=e1
 subst e12;subst e13
 rw[h12,show(16*(ext d).1+(ext n).1)%16=(ext n).1 by omega,d0F (by omega)]at e2
 simp only[Prod.mk.injEq]at e2
 obtain⟨e21,e22,e23⟩:=e2
 subst e22;subst e23
 rw[b0x _ _ _ (e21.symm.trans h8)]at e3
 simp only[Prod.mk.injEq]at e3
 obtain⟨e31,e32,e33⟩:=e3
 subst e31;subst e32;subst e33
 have hl:last+v1=o.num:=by omega
 refine⟨rfl,by simp;omega,by simp,by rw[b0m],?_⟩
 rw[cH,List.length_singleton,a0i Opt.none h5,←h17,hl,h6]
theorem Fits.start {b:List UInt8}:(∀m,OkM m→raw m=b→((bt b 0).toNat:Int)=64+16*m.ty+m.tok.length∧((bt b 1).toNat:Int)=m.code∧((bt b 2).toNat:Int)=m.id/256∧((bt b 3).toNat:Int)=m.id%256∧b.drop 4=m.tok++b0N m 0):=fun m hm hr=>by
 have h1:=hm.1
 have h2:=hm.2.1
 subst hr
 rw[j0r]
 refine⟨a0C (by omega),a0C (by omega),a0C (by omega),c0c _,rfl⟩
theorem Fits.first {b x r:List UInt8}{bad:Bool}(e:e0B (b.drop 4) false (((bt b 0).toNat:Int)%16)=(x,r,bad)):Fits b [] 0 r bad∧ ∀m,OkM m→raw m=b→x=m.tok:=by
 have key: ∀m,OkM m→raw m=b→x=m.tok∧r=b0N m 0∧bad=false:=fun m hm hr=>by
  obtain⟨h1, -, -, -,h5⟩:=Fits.start m hm hr
  have h2:=hm.2.1
  rw[h1,h5,b0x _ _ _ (by omega)]at e
  cases e
  exact⟨rfl,rfl,rfl⟩
 exact⟨fun m hm hr=>⟨(key m hm hr).2.2,Nat.zero_le _,(key m hm hr).2.1,rfl,rfl⟩,fun m hm hr=>(key m hm hr).1⟩
theorem Fits.all {b x r:List UInt8}{opts:List Opt}{last:Int}{bad:Bool}(h:Fits b opts last r bad)(hx: ∀m,OkM m→raw m=b→x=m.tok)(h1:bad=true∨r= []∨bt r 0=255){pay:List UInt8}(hp:pay=r.drop 1){ty code id:Int}
  (hty:ty=((bt b 0).toNat:Int)/16%4) (hcode:code=((bt b 1).toNat:Int)) (hid:id=((bt b 2).toNat:Int)*256+((bt b 3).toNat:Int)): ∀m,OkM m→raw m=b→bad=false∧m=⟨ty,code,id,x,opts,pay⟩:=fun m hm hr=>by
 obtain⟨g1,g2,g3,g4, -⟩:=Fits.start m hm hr
 obtain⟨h3,h4,h5⟩:=h.ends hm hr h1
 have q1:=hm.1
 have q2:=hm.2.1
 have hpay:pay=m.pay:=by
  rw[hp,h5,i0h]
  split
  ·rename_i e;rw[e];rfl
  rfl
 refine⟨h3,?_⟩
 obtain⟨ty',code',id',tok',opts',pay'⟩:=m
 simp only at g1 g2 g3 g4 q1 q2 h4 hpay
 have:=hx _ hm hr
 simp only at this
 subst this;subst h4;subst hpay
 rw[Msg.mk.injEq]
 refine⟨by omega,by omega,by omega,rfl,rfl,rfl⟩
theorem Fits.own {m:Msg}(hm:OkM m): ∀k,k≤m.opts.length→Fits (raw m) (m.opts.take k) (a0J 0 (m.opts.take k)) (b0N m k) false
 | 0,_=>by
  have h1:=hm.1
  have h2:=hm.2.1
  have e0:((bt (raw m) 0).toNat:Int)=64+16*m.ty+m.tok.length:=(Fits.start m hm rfl).1
  have e:e0B ((raw m).drop 4) false (((bt (raw m) 0).toNat:Int)%16)=(m.tok,b0N m 0,false):=by
   rw[(Fits.start m hm rfl).2.2.2.2,b0x _ _ _ (by omega)]
  exact(Fits.first e).1
 | k+1,h=>by
  have ih:=Fits.own hm k (by omega)
  have h5:k<m.opts.length:=by omega
  have h8:=d0l hm.2.2.1 h5
  have h9:=d0I (b0D hm.2.2.1 k) (by omega)
  have hr:=d0Y (m:=m) h5
  generalize hd:(oat m.opts k).num-a0J 0 (m.opts.take k)=d at hr
  generalize hn:((oat m.opts k).val.length:Int)=n at hr
  have e1:=c0t d (by omega)
  have e2:=c0t n (by omega)
  have hb:bt (b0N m k) 0=u8 (16*(ext d).1+(ext n).1):=by rw[hr];rfl
  have hu:=a0C (x:=16*(ext d).1+(ext n).1) (by omega)
  have s:=ih.step (v1:=d) (r1:=(ext n).2++((oat m.opts k).val++b0N m (k+1))) (b1:=false) (v2:=n) (r2:=(oat m.opts k).val++b0N m (k+1)) (b2:=false) (x:=(oat m.opts k).val) (r3:=b0N m (k+1)) (b3:=false)
   (by rw[hr];simp) (fun e=>by
    rw[hb]at e
    rw[e]at hu
    have:((255:UInt8).toNat:Int)=255:=rfl
    omega)
   (by rw[hb,hu,show(16*(ext d).1+(ext n).1)/16=(ext d).1 by omega,hr];exact d0F (by omega) _ _)
   (by rw[hb,hu,show(16*(ext d).1+(ext n).1)%16=(ext n).1 by omega];exact d0F (by omega) _ _)
   (b0x _ _ _ hn.symm)
  rw[show a0J 0 (m.opts.take k)+d=(oat m.opts k).num by omega]at s
  rw[a0i Opt.none h5,b0m]
  exact s
attribute [local irreducible] AW AQ AO
def cls (n:Int):Int:=
 if n=3∨n=7∨n=9∨n=16∨n=35∨n=39 then 2
 else if n=6∨n=14∨n=23∨n=27∨n=28∨n=60∨n=252∨n=258∨n=292 then 3 else 1
theorem l0A (n:Int):Sp Tryz.prog 154 [.val (.int .i64 n)] [] (Is (.val (.int .i64 (cls n)))):=by
 refine yr Tryz.func154 _ Tryz.ntmps154 (fun w0 R0=> ?_)
 refine zB (zr ?_)
 refine zc (zE (zm (zB (zB (zr ?_)))))
 refine zb (zE (zm (yT (zB (zB (zr ?_))))))
 refine yh ?_
 refine zc (zE (zm ?_))
 refine xV [(3,_)] (fun E H=> ∃(c40:Bool),(c40=decide (n=3∨n=7∨n=9∨n=16∨n=35∨n=39))∧E= [(4,.val (.bool c40))]∧H= []) (fun h40=> ?_) (fun h40=> ?_) ?_<;>try(try simp only[wr]at h40)
 ·refine yI ?_
  refine yB _ _ (⟨n==3,by simp[h40],rfl,rfl⟩)
 ·refine zB (zr ?_)
  refine yh ?_
  refine zc (zE (zm ?_))
  refine xV [(3,_)] (fun E H=> ∃(c41:Bool),(c41=decide (n=7∨n=9∨n=16∨n=35∨n=39))∧E= [(4,.val (.bool c41))]∧H= []) (fun h41=> ?_) (fun h41=> ?_) ?_<;>try(try simp only[wr]at h41)
  ·refine yI ?_
   refine yB _ _ (⟨n==7,by simp[h41],rfl,rfl⟩)
  ·refine zB (zr ?_)
   refine yh ?_
   refine zc (zE (zm ?_))
   refine xV [(3,_)] (fun E H=> ∃(c42:Bool),(c42=decide (n=9∨n=16∨n=35∨n=39))∧E= [(4,.val (.bool c42))]∧H= []) (fun h42=> ?_) (fun h42=> ?_) ?_<;>try(try simp only[wr]at h42)
   ·refine yI ?_
    refine yB _ _ (⟨n==9,by simp[h42],rfl,rfl⟩)
   ·refine zB (zr ?_)
    refine yh ?_
    refine zc (zE (zm ?_))
    refine xV [(3,_)] (fun E H=> ∃(c43:Bool),(c43=decide (n=16∨n=35∨n=39))∧E= [(4,.val (.bool c43))]∧H= []) (fun h43=> ?_) (fun h43=> ?_) ?_<;>try(try simp only[wr]at h43)
    ·refine yI ?_
     refine yB _ _ (⟨n==16,by simp[h43],rfl,rfl⟩)
    ·refine zB (zr ?_)
     refine yh ?_
     refine zc (zE (zm ?_))
     refine xV [(3,_)] (fun E H=> ∃(c44:Bool),(c44=decide (n=35∨n=39))∧E= [(4,.val (.bool c44))]∧H= []) (fun h44=> ?_) (fun h44=> ?_) ?_<;>try(try simp only[wr]at h44)
     ·refine yI ?_
      refine yB _ _ (⟨n==35,by simp[h44],rfl,rfl⟩)
     ·refine zr ?_
      refine yh ?_
      refine zc (zE ?_)
      refine yB _ _ (⟨n==39,by rw[Bool.eq_iff_iff];simp[h44],rfl,rfl⟩)
     rintro E1 H1 ⟨c44,hc44,rfl,rfl⟩
     dsimp only[cA,cN]
     refine yB _ _ (⟨c44,by rw[hc44];simp only[h43,false_or],rfl,rfl⟩)
    rintro E1 H1 ⟨c43,hc43,rfl,rfl⟩
    dsimp only[cA,cN]
    refine yB _ _ (⟨c43,by rw[hc43];simp only[h42,false_or],rfl,rfl⟩)
   rintro E1 H1 ⟨c42,hc42,rfl,rfl⟩
   dsimp only[cA,cN]
   refine yB _ _ (⟨c42,by rw[hc42];simp only[h41,false_or],rfl,rfl⟩)
  rintro E1 H1 ⟨c41,hc41,rfl,rfl⟩
  dsimp only[cA,cN]
  refine yB _ _ (⟨c41,by rw[hc41];simp only[h40,false_or],rfl,rfl⟩)
 rintro E1 H1 ⟨c40,hc40,rfl,rfl⟩
 dsimp only[cA,cN]
 refine zm ?_
 refine yk (fun ha=> ?_) (fun ha=> ?_)<;>(try simp only[wr]at ha)
 ·rw[hc40]at ha
  have e:cls n=2:=if_pos (by simpa using ha)
  refine zB (zr ?_)
  refine zc (zE (zm (yR ?_)))
  refine xN (y0 ?_)
  refine AQ.ret1 rfl rfl nS (⟨by rw[e];rfl,rfl⟩)
 rw[hc40]at ha
 refine zB (zB (zr ?_))
 refine yh ?_
 refine zc (zE (zm ?_))
 refine AW.joinI [] (fun E H=> ∃(c110:Bool),(c110=decide (n=6∨n=14∨n=23∨n=27∨n=28∨n=60∨n=252∨n=258∨n=292))∧E= [(11,.val (.bool c110))]∧H= []) rfl (by repeat(exact a0f)) (fun h110=> ?_) (fun h110=> ?_) ?_<;>try(try simp only[wr]at h110)
 ·refine yI ?_
  refine ym _ _ (⟨n==6,by simp[h110],rfl,rfl⟩)
 ·refine zB (zr ?_)
  refine yh ?_
  refine zc (zE (zm ?_))
  refine AW.joinI [] (fun E H=> ∃(c111:Bool),(c111=decide (n=14∨n=23∨n=27∨n=28∨n=60∨n=252∨n=258∨n=292))∧E= [(11,.val (.bool c111))]∧H= []) rfl (by repeat(exact a0f)) (fun h111=> ?_) (fun h111=> ?_) ?_<;>try(try simp only[wr]at h111)
  ·refine yI ?_
   refine ym _ _ (⟨n==14,by simp[h111],rfl,rfl⟩)
  ·refine zB (zr ?_)
   refine yh ?_
   refine zc (zE (zm ?_))
   refine AW.joinI [] (fun E H=> ∃(c112:Bool),(c112=decide (n=23∨n=27∨n=28∨n=60∨n=252∨n=258∨n=292))∧E= [(11,.val (.bool c112))]∧H= []) rfl (by repeat(exact a0f)) (fun h112=> ?_) (fun h112=> ?_) ?_<;>try(try simp only[wr]at h112)
   ·refine yI ?_
    refine ym _ _ (⟨n==23,by simp[h112],rfl,rfl⟩)
   ·refine zB (zr ?_)
    refine yh ?_
    refine zc (zE (zm ?_))
    refine AW.joinI [] (fun E H=> ∃(c113:Bool),(c113=decide (n=27∨n=28∨n=60∨n=252∨n=258∨n=292))∧E= [(11,.val (.bool c113))]∧H= []) rfl (by repeat(exact a0f)) (fun h113=> ?_) (fun h113=> ?_) ?_<;>try(try simp only[wr]at h113)
    ·refine yI ?_
     refine ym _ _ (⟨n==27,by simp[h113],rfl,rfl⟩)
    ·refine zB (zr ?_)
     refine yh ?_
     refine zc (zE (zm ?_))
     refine AW.joinI [] (fun E H=> ∃(c114:Bool),(c114=decide (n=28∨n=60∨n=252∨n=258∨n=292))∧E= [(11,.val (.bool c114))]∧H= []) rfl (by repeat(exact a0f)) (fun h114=> ?_) (fun h114=> ?_) ?_<;>try(try simp only[wr]at h114)
     ·refine yI ?_
      refine ym _ _ (⟨n==28,by simp[h114],rfl,rfl⟩)
     ·refine zB (zr ?_)
      refine yh ?_
      refine zc (zE (zm ?_))
      refine AW.joinI [] (fun E H=> ∃(c115:Bool),(c115=decide (n=60∨n=252∨n=258∨n=292))∧E= [(11,.val (.bool c115))]∧H= []) rfl (by repeat(exact a0f)) (fun h115=> ?_) (fun h115=> ?_) ?_<;>try(try simp only[wr]at h115)
      ·refine yI ?_
       refine ym _ _ (⟨n==60,by simp[h115],rfl,rfl⟩)
      ·refine zB (zr ?_)
       refine yh ?_
       refine zc (zE (zm ?_))
       refine AW.joinI [] (fun E H=> ∃(c116:Bool),(c116=decide (n=252∨n=258∨n=292))∧E= [(11,.val (.bool c116))]∧H= []) rfl (by repeat(exact a0f)) (fun h116=> ?_) (fun h116=> ?_) ?_<;>try(try simp only[wr]at h116)
       ·refine yI ?_
        refine ym _ _ (⟨n==252,by simp[h116],rfl,rfl⟩)
       ·refine zB (zr ?_)
        refine yh ?_
        refine zc (zE (zm ?_))
        refine AW.joinI [] (fun E H=> ∃(c117:Bool),(c117=decide (n=258∨n=292))∧E= [(11,.val (.bool c117))]∧H= []) rfl (by repeat(exact a0f)) (fun h117=> ?_) (fun h117=> ?_) ?_<;>try(try simp only[wr]at h117)
        ·refine yI ?_
         refine ym _ _ (⟨n==258,by simp[h117],rfl,rfl⟩)
        ·refine zr ?_
         refine yh ?_
         refine zc (zE ?_)
         refine ym _ _ (⟨n==292,by rw[Bool.eq_iff_iff];simp[h117],rfl,rfl⟩)
        rintro E1 H1 ⟨c117,hc117,rfl,rfl⟩
        dsimp only[cA,cN]
        refine ym _ _ (⟨c117,by rw[hc117];simp only[h116,false_or],rfl,rfl⟩)
       rintro E1 H1 ⟨c116,hc116,rfl,rfl⟩
       dsimp only[cA,cN]
       refine ym _ _ (⟨c116,by rw[hc116];simp only[h115,false_or],rfl,rfl⟩)
      rintro E1 H1 ⟨c115,hc115,rfl,rfl⟩
      dsimp only[cA,cN]
      refine ym _ _ (⟨c115,by rw[hc115];simp only[h114,false_or],rfl,rfl⟩)
     rintro E1 H1 ⟨c114,hc114,rfl,rfl⟩
     dsimp only[cA,cN]
     refine ym _ _ (⟨c114,by rw[hc114];simp only[h113,false_or],rfl,rfl⟩)
    rintro E1 H1 ⟨c113,hc113,rfl,rfl⟩
    dsimp only[cA,cN]
    refine ym _ _ (⟨c113,by rw[hc113];simp only[h112,false_or],rfl,rfl⟩)
   rintro E1 H1 ⟨c112,hc112,rfl,rfl⟩
   dsimp only[cA,cN]
   refine ym _ _ (⟨c112,by rw[hc112];simp only[h111,false_or],rfl,rfl⟩)
  rintro E1 H1 ⟨c111,hc111,rfl,rfl⟩
  dsimp only[cA,cN]
  refine ym _ _ (⟨c111,by rw[hc111];simp only[h110,false_or],rfl,rfl⟩)
 rintro E1 H1 ⟨c110,hc110,rfl,rfl⟩
 dsimp only[cA,cN]
 refine zm ?_
 refine yk (fun hb=> ?_) (fun hb=> ?_)<;>(try simp only[wr]at hb)
 ·rw[hc110]at hb
  have e:cls n=3:=(if_neg (by simpa using ha)).trans (if_pos (by simpa using hb))
  refine zB (zr ?_)
  refine zc (zE (zm (yR ?_)))
  refine xN (y0 ?_)
  refine AQ.ret1 rfl rfl nS (⟨by rw[e];rfl,rfl⟩)
 rw[hc110]at hb
 have e:cls n=1:=(if_neg (by simpa using ha)).trans (if_neg (by simpa using hb))
 refine yI (y5 (zm (zB (zr ?_))))
 refine zc (zE (zm (yR ?_)))
 refine AQ.ret1 rfl rfl nS (⟨by rw[e];rfl,rfl⟩)
def rq (c:Int):Bool:=decide (1≤c)&&decide (c≤31)
def rs (c:Int):Bool:=decide (64≤c)
theorem f0m (c:Int):Sp Tryz.prog 152 [.val (.int .i64 c)] [] (Is (.val (.bool (rq c)))):=by
 refine yr Tryz.func152 _ Tryz.ntmps152 (fun w0 R0=> ?_)
 refine zB (zr ?_)
 refine zc (zE (zm (zB (zr ?_))))
 refine zb ?_
 refine xY ?_
 refine zb ?_
 refine yl ?_
 refine yW 6 ?_
 refine zO ?_
 refine zc (zE (zm (yR ?_)))
 refine yd
theorem f0l (c:Int):Sp Tryz.prog 153 [.val (.int .i64 c)] [] (Is (.val (.bool (rs c)))):=by
 refine yr Tryz.func153 _ Tryz.ntmps153 (fun w0 R0=> ?_)
 refine zB (zr ?_)
 refine zc (zE (zm (zB (zr ?_))))
 refine zb ?_
 refine xY ?_
 refine zc (zE (zm (yR ?_)))
 refine yd
theorem g0r (o:Opt)(h:o.val.length≤140737488355328):Sp Tryz.prog 155 [r0r o] [] (Is (r0r o)):=by
 refine yr Tryz.func155 _ Tryz.ntmps155 (fun w0 R0=> ?_)
 refine zB (zr ?_)
 refine ya ?_
 intro B1
 refine yJ ?_
 intro B2
 refine zE (zm (zB ?_))
 refine yv 5 ?_
 simp only[cT,cZ,cD,cO]
 refine yC ?_
 refine zY ?_
 refine yC ?_
 refine zY ?_
 refine FA.opN zU rfl rfl rfl rfl ?_
 refine wh ?_
 simp only[a0l,cN,cA,cP]
 rintro _ _ ⟨V3,rfl,hV3,rfl⟩
 simp only[cA,cN]
 refine AO.g ?_
 refine yG 0 [7] ?_
 refine AO.u ?_
 dsimp only[List.map,List.eraseIdx,cA,cN]
 refine zT ?_
 refine zK 0 (zE (zm (yR ?_)))
 refine AQ.retCell rfl rfl (by repeat(exact List.Mem.head _)) (by rfl) rfl nS (⟨rfl,rfl⟩)
theorem p0n (n:Int):1≤cls n∧cls n≤3:=by unfold cls;(repeat' split)<;>omega
def inO (c:Int)(o:Opt):Opt:=if o.num=6∧rs c=true then⟨o.num,[]⟩else o
def inL (c:Int)(os:List Opt):List Opt:=(os.filter fun o=>decide (cls o.num≠2)).map (inO c)
def g0c (os:List Opt):List Opt:=os.filter fun o=>decide (cls o.num=2∨o.num=6)
def d0m (os:List Opt):Bool:=os.any fun o=>decide (o.num=6)
def n0I (os:List Opt):Bool:=os.any fun o=>decide (o.num=9∨o.num=35)
theorem l0p (c:Int)(os:List Opt)(o:Opt):inL c (os++[o])=if cls o.num≠2 then inL c os++[inO c o]else inL c os:=by
 unfold inL
 rw[List.filter_append,List.map_append]
 by_cases h:cls o.num=2<;>simp[h]
theorem j0J (os:List Opt)(o:Opt):g0c (os++[o])=if cls o.num=2∨o.num=6 then g0c os++[o]else g0c os:=by
 unfold g0c
 rw[List.filter_append]
 by_cases h:cls o.num=2∨o.num=6<;>simp[h]
theorem g0C (os:List Opt)(o:Opt):d0m (os++[o])=(d0m os||decide (o.num=6)):=by simp[d0m]
theorem k0q (os:List Opt)(o:Opt):n0I (os++[o])=(n0I os||decide (o.num=9∨o.num=35)):=by simp[n0I]
theorem n0x (c:Int)(os:List Opt):(inL c os).length≤os.length:=by rw[inL,List.length_map];exact List.length_filter_le _ _
theorem h0B (os:List Opt):(g0c os).length≤os.length:=List.length_filter_le _ _
def l0d (m:Msg):Int:=if rq m.code=true then(if d0m m.opts=true then 5 else 2)else(if d0m m.opts=true then 69 else 68)
def inM (m:Msg):Msg:=⟨0,m.code,0,[],inL m.code m.opts,m.pay⟩
def n0Y (m:Msg):Msg:=⟨m.ty,l0d m,m.id,m.tok,g0c m.opts,[]⟩
def a0s (m:Msg):Msg×Msg×Int:=
 if ValM m∧(rq m.code=true∨rs m.code=true)then(if n0I m.opts=true then(Msg.none,Msg.none,15)else(inM m,n0Y m,0))else(Msg.none,Msg.none,1)
abbrev r0b (r:Msg×Msg×Int):AV:= .tup [b0s r.1,b0s r.2.1,.val (.int .i64 r.2.2)]
theorem i0m {m a b:Msg}{e:Int}(h:a0s m=(a,b,e)):Is (r0b (a0s m)) (.tup [b0s a,b0s b,.val (.int .i64 e)]) []:=by rw[h];exact⟨rfl,rfl⟩
theorem ValM.sm {m:Msg}(h:ValM m):m.tok.length≤8∧m.pay.length≤4096∧m.opts.length≤32∧ ∀k,k<m.opts.length→(oat m.opts k).val.length≤1034:=by
 obtain⟨⟨-,h2,h3, -, -,h6⟩, -⟩:=h
 exact⟨by omega,by omega,by omega,fun k hk=>by have:=(d0l h3 hk).2.2;omega⟩
set_option maxHeartbeats 8000000 in
theorem k0H (m:Msg):Sp Tryz.prog 114 [b0s m] [] (Is (r0b (a0s m))):=by
 have bT: ∀{b:Bool},b=true→rq m.code=b→True:=fun _ _=>trivial
 refine yr Tryz.func114 _ Tryz.ntmps114 (fun w0 R0=> ?_)
 refine zB (zr ?_)
 refine ya ?_
 intro B1
 refine zd ?_
 intro B2
 refine zd ?_
 intro B3
 refine zc (zE (zm (zB (zB (zr ?_)))))
 refine zD ?_
 refine wl (xl rfl Tryz.func119 rfl rfl rfl (k0d m)) ?_
 refine zb ?_
 refine zW ?_
 refine zW ?_
 refine zc ?_
 refine zc (zE (zm (zB (zr ?_))))
 refine zb ?_
 refine yZ ?_
 refine zb ?_
 refine zJ ?_
 refine yO 22 ?_
 refine AO.opG rfl rfl rfl (fun hp=>wo 23 rfl (by exact hp) (xl rfl Tryz.func152 rfl rfl rfl (f0m m.code))) ?_
 refine y3 24 ?_
 refine xA 25 ?_
 refine zJ ?_
 refine yO 27 ?_
 refine AO.opG rfl rfl rfl (fun hp=>wo 28 rfl (by exact hp) (xl rfl Tryz.func153 rfl rfl rfl (f0l m.code))) ?_
 refine y3 29 ?_
 refine xS 26 ?_
 refine zF (zE (zm ?_))
 refine yk (fun h=> ?_) (fun h=> ?_)<;>(try simp only[wr]at h)
 ·have e:a0s m=(Msg.none,Msg.none,1):=if_neg (by
   rintro⟨hv,hc⟩
   rw[h0P hv]at h
   simp at h
   simp[h.1,h.2]at hc)
  refine zB (zr ?_)
  refine zT ?_
  refine zT ?_
  refine za 1 ?_
  refine za 0 ?_
  refine zc (zE (zm (yR (y0 ?_))))
  refine wg y1 zo (i0m e)
 have hv:ValM m:=Classical.byContradiction fun hv=>by rw[h0Q hv]at h;simp at h
 have hc:rq m.code=true∨rs m.code=true:=by rw[h0P hv]at h;simp at h;cases hq:rq m.code<;>simp_all
 obtain⟨s1,s2,s3,s4⟩:=hv.sm
 refine yI (zm (zB ?_))
 refine yv 7 ?_
 simp only[cT,cZ,cD,cO]
 refine yC ?_
 refine zY ?_
 refine yC ?_
 refine zY ?_
 refine wi ?_
 refine wm yi ?_
 refine xR ?_
 refine wh ?_
 simp only[a0l,cN,cA,cP]
 rintro _ _ ⟨B4,rfl,rfl⟩
 simp only[cA,cN]
 refine za 0 (zE (zm (zB ?_)))
 refine yv 9 ?_
 simp only[cT,cZ,cD,cO]
 refine yC ?_
 refine zY ?_
 refine yC ?_
 refine zY ?_
 refine yC ?_
 refine zY ?_
 refine wi ?_
 refine wm yi ?_
 refine xR ?_
 refine wh ?_
 simp only[a0l,cN,cA,cP]
 rintro _ _ ⟨B5,rfl,rfl⟩
 simp only[cA,cN]
 refine za 0 (zE (zm (zB (zr ?_))))
 refine zc (zE (zm (zB (zB (zr ?_)))))
 refine zq ?_
 refine zv ?_
 refine zR ?_
 refine zb (zE (zm (yT ?_)))
 refine AW.g ?_
 refine G.nilRow 96 2 ?_
 refine AW.u ?_
 refine AW.g ?_
 refine G.nilRow 96 2 ?_
 refine AW.u ?_
 refine AW.loopK [(1,_),(2,_),(3,_),(7,_),(8,_),(50,_),(51,_)] (fun nn E H=> ∃(k:Nat) (V V':Value),(k≤m.opts.length)∧(V.oneCell'=true)∧(V'.oneCell'=true)∧(n0I (m.opts.take k)=false)∧nn=m.opts.length-k∧E= [(9,.val (.bool (d0m (m.opts.take k)))),(52,.val (.int .i64 (k:Int)))]∧H= [.row V 96 2 (inL m.code (m.opts.take k)).length (a0L (inL m.code (m.opts.take k))),.row V' 96 2 (g0c (m.opts.take k)).length (a0L (g0c (m.opts.take k))),.blk B4 29 6 [.val (.int .i64 0),.val (.int .i64 m.code),.val (.int .i64 0),.val (.slice none 0 0),.val V,roB m.pay],.blk B5 29 6 [.val (.int .i64 m.ty),.val (.int .i64 0),.val (.int .i64 m.id),roB m.tok,.val V',.val (.slice none 0 0)],.blk B3 29 6 [.val (.int .i64 0),.val (.int .i64 0),.val (.int .i64 0),.val (.slice none 0 0),.val (.slice none 0 0),.val (.slice none 0 0)],.blk B2 29 6 [.val (.int .i64 0),.val (.int .i64 0),.val (.int .i64 0),.val (.slice none 0 0),.val (.slice none 0 0),.val (.slice none 0 0)],.blk B1 29 6 [.val (.int .i64 m.ty),.val (.int .i64 m.code),.val (.int .i64 m.id),roB m.tok,roO m.opts,roB m.pay]]) _ (⟨0,_,_,by omega,rfl,rfl,rfl,rfl,rfl,rfl⟩) (by repeat(first|exact a0f|refine a0h rfl ?_)) (by repeat(first|exact a0f|refine a0h rfl ?_)) (by repeat(first|exact a0p|refine a0m 0 rfl ?_|refine a0m 1 rfl ?_)) ?_
 rintro nn E H ⟨k,V,V',hk,hV,hV',hb,rfl,rfl,rfl⟩
 dsimp only[cA,cN]
 have hl1:=n0x m.code (m.opts.take k)
 have hl2:=h0B (m.opts.take k)
 rw[List.length_take]at hl1 hl2
 refine zB (zr ?_)
 refine zN (zE (zm (zB ?_)))
 refine yk (fun h2=> ?_) (fun h2=> ?_)<;>(try simp only[wr]at h2)
 ·have hkk:k<m.opts.length:=by omega
  have hv4:(oat m.opts k).val.length≤140737488355328:=by have:=s4 k hkk;omega
  have hci:=p0n (oat m.opts k).num
  refine yI (zm (zB (yT (zB (zr ?_)))))
  refine z8 ?_
  refine yY ?_
  refine zd ?_
  intro B6
  refine za 0 (zE (zm (zB (zB (zr ?_)))))
  refine zq ?_
  refine zt ?_
  refine yh ?_
  refine zb ?_
  refine zJ ?_
  refine zl 60 ?_
  refine yE 61 ?_
  refine zF (zE (zm ?_))
  refine yk (fun h3=> ?_) (fun h3=> ?_)<;>(try simp only[wr]at h3)
  ·have e:a0s m=(Msg.none,Msg.none,15):=by
    rw[a0s,if_pos ⟨hv,hc⟩,if_pos]
    exact List.any_eq_true.2 ⟨oat m.opts k,b0u _ hkk,by simpa using h3⟩
   refine zB (zr ?_)
   refine zT ?_
   refine zT ?_
   refine za 6 ?_
   refine za 5 ?_
   refine zc (zE (zm (yR (y0 ?_))))
   refine xN (y0 ?_)
   refine AQ.loopR ?_
   refine xN (y0 ?_)
   refine wg xI zo (i0m e)
  refine yI (zm (zB (zr ?_)))
  refine zq ?_
  refine zt ?_
  refine wl (xl rfl Tryz.func154 rfl rfl rfl (l0A _)) ?_
  refine zc (zE (zm (zB (zB (zr ?_)))))
  refine zb ?_
  refine wl (O.and_ rfl rfl rfl (p0u 1 (by decide) (by decide) (m:=2) (by decide) (by omega))) ?_
  refine yZ (zE (zm ?_))
  have hb':n0I (m.opts.take (k+1))=false:=by rw[a0i Opt.none hkk,k0q,hb,Bool.false_or];exact decide_eq_false (fun hx=>hx.elim h3.1 h3.2)
  have hw':d0m (m.opts.take (k+1))=(d0m (m.opts.take k)||decide ((oat m.opts k).num=6)):=by rw[a0i Opt.none hkk,g0C]
  have hin:=l0p m.code (m.opts.take k) (oat m.opts k)
  have hou:=j0J (m.opts.take k) (oat m.opts k)
  rw[←a0i Opt.none hkk]at hin hou
  refine xV [(1,_),(2,_),(3,_),(7,_),(8,_),(9,_),(11,_),(12,_),(50,_),(51,_),(52,_)] (fun E H=> ∃(W:Value),(W.oneCell'=true)∧E= []∧H= [.blk B6 96 2 [.val (.int .i64 (oat m.opts k).num),roB (oat m.opts k).val],.row W 96 2 (inL m.code (m.opts.take (k+1))).length (a0L (inL m.code (m.opts.take (k+1)))),.row V' 96 2 (g0c (m.opts.take k)).length (a0L (g0c (m.opts.take k))),.blk B4 29 6 [.val (.int .i64 0),.val (.int .i64 m.code),.val (.int .i64 0),.val (.slice none 0 0),.val W,roB m.pay],.blk B5 29 6 [.val (.int .i64 m.ty),.val (.int .i64 0),.val (.int .i64 m.id),roB m.tok,.val V',.val (.slice none 0 0)],.blk B3 29 6 [.val (.int .i64 0),.val (.int .i64 0),.val (.int .i64 0),.val (.slice none 0 0),.val (.slice none 0 0),.val (.slice none 0 0)],.blk B2 29 6 [.val (.int .i64 0),.val (.int .i64 0),.val (.int .i64 0),.val (.slice none 0 0),.val (.slice none 0 0),.val (.slice none 0 0)],.blk B1 29 6 [.val (.int .i64 m.ty),.val (.int .i64 m.code),.val (.int .i64 m.id),roB m.tok,roO m.opts,roB m.pay]]) (fun h71=> ?_) (fun h71=> ?_) ?_<;>try(try simp only[wr]at h71)
  ·rw[if_pos (by omega)]at hin
   refine zB (zr ?_)
   refine zy ?_
   refine wl (xl rfl Tryz.func155 rfl rfl rfl (g0r (oat m.opts k) hv4)) ?_
   refine zd ?_
   intro B7
   refine za 0 (zE (zm (zB (zB (zr ?_)))))
   refine zq ?_
   refine zv ?_
   refine yh ?_
   refine zb ?_
   refine zJ ?_
   refine yO 78 ?_
   refine AO.opG rfl rfl rfl (fun hp=>wo 79 rfl (by exact hp) (xl rfl Tryz.func153 rfl rfl rfl (f0l m.code))) ?_
   refine zO (zE (zm ?_))
   refine yk (fun h81=> ?_) (fun h81=> ?_)<;>(try simp only[wr]at h81)
   ·have hi2:inO m.code (oat m.opts k)=⟨(oat m.opts k).num,[]⟩:=if_pos h81
    rw[hi2]at hin
    refine zr ?_
    refine zq ?_
    refine za 0 (zE (zm (zr ?_)))
    refine zq ?_
    refine zv ?_
    refine zy ?_
    refine zQ ?_
    intro B8
    refine AO.g ?_
    refine z6 0 86 ?_
    refine xz 86 ?_
    refine AO.u ?_
    dsimp only[List.eraseIdx]
    refine zw 2 ?_
    intro V9 hV9
    refine zq ?_
    refine xn 4 (zE ?_)
    refine AQ.g ?_
    refine G.coeRow 2 _ (a0L (inL m.code (m.opts.take k))++[.val (.int .i64 (oat m.opts k).num),roB []]) rfl rfl (CoeL.app CoeL.refl (CoeL.cons Coe.rfl (CoeL.cons Coe.nil CoeL.nil))) ?_
    refine AQ.u ?_
    refine AQ.midI _ _ (⟨_,‹_›,rfl,by rw[hin,a0E,cH]⟩) (by repeat(first|exact a0f|refine a0h rfl ?_)) (by repeat(exact a0f)) (by repeat(first|exact a0p|refine a0m 1 rfl ?_))
   have hi2:inO m.code (oat m.opts k)=oat m.opts k:=if_neg (fun hh=>by have:=h81 hh.1;rw[hh.2]at this;cases this)
   rw[hi2]at hin
   refine yI (zm (zr ?_))
   refine zq ?_
   refine zv ?_
   refine zy ?_
   refine zQ ?_
   intro B10
   refine AO.g ?_
   refine z6 0 86 ?_
   refine xz 86 ?_
   refine AO.u ?_
   dsimp only[List.eraseIdx]
   refine zw 2 ?_
   intro V11 hV11
   refine zq ?_
   refine xn 4 (zE ?_)
   refine AQ.midI _ _ (⟨_,‹_›,rfl,by rw[hin,a0E,cH]⟩) (by repeat(first|exact a0f|refine a0h rfl ?_)) (by repeat(exact a0f)) (by repeat(first|exact a0p|refine a0m 1 rfl ?_))
  ·rw[if_neg (by omega)]at hin
   refine yI ?_
   refine xe _ _ (⟨V,hV,rfl,by rw[hin]⟩)
  rintro E1 H1 ⟨W,hW,rfl,rfl⟩
  dsimp only[cA,cN]
  refine zm (zB (zB (zr ?_)))
  refine zb ?_
  refine yh ?_
  refine zb ?_
  refine zJ ?_
  refine zl 92 ?_
  refine yE 93 ?_
  refine zF (zE (zm ?_))
  refine xV [(1,_),(2,_),(3,_),(7,_),(8,_),(9,_),(11,_),(50,_),(51,_),(52,_)] (fun E H=> ∃(W':Value),(W'.oneCell'=true)∧E= []∧H= [.blk B6 96 2 [.val (.int .i64 (oat m.opts k).num),roB (oat m.opts k).val],.row W 96 2 (inL m.code (m.opts.take (k+1))).length (a0L (inL m.code (m.opts.take (k+1)))),.row W' 96 2 (g0c (m.opts.take (k+1))).length (a0L (g0c (m.opts.take (k+1)))),.blk B4 29 6 [.val (.int .i64 0),.val (.int .i64 m.code),.val (.int .i64 0),.val (.slice none 0 0),.val W,roB m.pay],.blk B5 29 6 [.val (.int .i64 m.ty),.val (.int .i64 0),.val (.int .i64 m.id),roB m.tok,.val W',.val (.slice none 0 0)],.blk B3 29 6 [.val (.int .i64 0),.val (.int .i64 0),.val (.int .i64 0),.val (.slice none 0 0),.val (.slice none 0 0),.val (.slice none 0 0)],.blk B2 29 6 [.val (.int .i64 0),.val (.int .i64 0),.val (.int .i64 0),.val (.slice none 0 0),.val (.slice none 0 0),.val (.slice none 0 0)],.blk B1 29 6 [.val (.int .i64 m.ty),.val (.int .i64 m.code),.val (.int .i64 m.id),roB m.tok,roO m.opts,roB m.pay]]) (fun h95=> ?_) (fun h95=> ?_) ?_<;>try(try simp only[wr]at h95)
  ·rw[if_pos h95]at hou
   refine yv 5 ?_
   simp only[cT,cZ,cD,cO]
   refine yC ?_
   refine zY ?_
   refine xM ?_
   refine wm (xl rfl Tryz.func155 rfl rfl rfl (g0r (oat m.opts k) hv4)) ?_
   refine wm xc ?_
   refine wh ?_
   simp only[a0l,cN,cA,cP]
   refine zw 2 ?_
   intro V12 hV12
   refine zq ?_
   refine xn 4 (zE ?_)
   refine xe _ _ (⟨_,‹_›,rfl,by rw[hou,a0E,cH]⟩)
  ·rw[if_neg (by omega)]at hou
   refine yI ?_
   refine xe _ _ (⟨V',hV',rfl,by rw[hou]⟩)
  rintro E1 H1 ⟨W',hW',rfl,rfl⟩
  dsimp only[cA,cN]
  refine zm (zr ?_)
  refine zb ?_
  refine zb ?_
  refine zJ ?_
  refine zl 105 ?_
  refine yE 106 ?_
  refine zF ?_
  refine zc (zE (y5 (zm (zr ?_))))
  refine zA ?_
  refine zb (zE ?_)
  refine zH _ _ _ (by omega) (⟨k+1,W,W',by omega,hW,hW',hb',rfl,by rw[hw'],rfl⟩)
 obtain rfl:k=m.opts.length:=by omega
 rw[List.take_length]at hb hl1 hl2⊢
 have hnb: ¬n0I m.opts=true:=by rw[hb];simp
 have e0:a0s m=(inM m,n0Y m,0):=by rw[a0s,if_pos ⟨hv,hc⟩,if_neg hnb]
 refine AW.g ?_
 refine G.freezeCell 0 1 4 rfl rfl rfl ?_
 refine AW.u ?_
 refine AW.g ?_
 refine G.freezeCell 0 1 4 rfl rfl rfl ?_
 refine AW.u ?_
 refine xx ?_
 refine xp ?_
 refine xu ?_
 refine y2 (zm (zB (yT (zB (zr ?_)))))
 refine zq ?_
 refine zv ?_
 refine wl (xl rfl Tryz.func152 rfl rfl rfl (f0m m.code)) ?_
 refine zb ?_
 refine yl ?_
 refine zO ?_
 refine zc (zE (zm ?_))
 refine yk (fun ha=> ?_) (fun ha=> ?_)<;>(try simp only[wr]at ha)
 ·have e1:l0d m=5:=by rw[l0d,if_pos ha.1,if_pos ha.2]
  have e:a0s m=(inM m,⟨m.ty,5,m.id,m.tok,g0c m.opts,[]⟩,0):=by rw[e0,n0Y,e1]
  refine zr ?_
  refine zq ?_
  refine za 1 (zE (y5 (zm (zB ?_))))
  refine AW.regionM [(0,false),(1,false),(2,true),(3,true),(4,false)] (by kernel_rfl) (by kernel_rfl) (by exact(by exact a0G 2 3 rfl rfl (by exact a0G 3 2 rfl rfl a0D))) ?_
  dsimp only[List.eraseIdx]
  refine xi ?_
  refine yL ?_
  refine AM.main _ rfl (fun w0 R0=> ?_)
  refine za 0 (AM.okN ?_)
  dsimp only[b0d]
  refine AM.main _ rfl (fun w0 R0=> ?_)
  refine za 1 (AM.okN ?_)
  dsimp only[b0d]
  refine wn rfl zi ?_
  refine AM.nil ?_
  dsimp only[cA,cN]
  refine zm (yR ?_)
  refine wg yn zo (i0m e)
 refine zB (zr ?_)
 refine zq ?_
 refine zv ?_
 refine wl (xl rfl Tryz.func152 rfl rfl rfl (f0m m.code)) ?_
 refine zc (zE (zm ?_))
 refine yk (fun hd=> ?_) (fun hd=> ?_)<;>(try simp only[wr]at hd)
 ·have e1:l0d m=2:=by rw[l0d,if_pos hd,if_neg (by rw[ha hd];simp)]
  have e:a0s m=(inM m,⟨m.ty,2,m.id,m.tok,g0c m.opts,[]⟩,0):=by rw[e0,n0Y,e1]
  refine zr ?_
  refine zq ?_
  refine za 1 (zE (y5 (zm (zB ?_))))
  refine AW.regionM [(0,false),(1,false),(2,true),(3,true),(4,false)] (by kernel_rfl) (by kernel_rfl) (by exact(by exact a0G 2 3 rfl rfl (by exact a0G 3 2 rfl rfl a0D))) ?_
  dsimp only[List.eraseIdx]
  refine xi ?_
  refine yL ?_
  refine AM.main _ rfl (fun w0 R0=> ?_)
  refine za 0 (AM.okN ?_)
  dsimp only[b0d]
  refine AM.main _ rfl (fun w0 R0=> ?_)
  refine za 1 (AM.okN ?_)
  dsimp only[b0d]
  refine wn rfl zi ?_
  refine AM.nil ?_
  dsimp only[cA,cN]
  refine zm (yR ?_)
  refine wg yn zo (i0m e)
 refine zB (zr ?_)
 refine zb ?_
 refine zc (zE (zm ?_))
 refine yk (fun hf=> ?_) (fun hf=> ?_)<;>(try simp only[wr]at hf)
 ·have e1:l0d m=69:=by rw[l0d,if_neg (by rw[hd];simp),if_pos hf]
  have e:a0s m=(inM m,⟨m.ty,69,m.id,m.tok,g0c m.opts,[]⟩,0):=by rw[e0,n0Y,e1]
  refine zr ?_
  refine zq ?_
  refine za 1 (zE (y5 (zm (zB ?_))))
  refine AW.regionM [(0,false),(1,false),(2,true),(3,true),(4,false)] (by kernel_rfl) (by kernel_rfl) (by exact(by exact a0G 2 3 rfl rfl (by exact a0G 3 2 rfl rfl a0D))) ?_
  dsimp only[List.eraseIdx]
  refine xi ?_
  refine yL ?_
  refine AM.main _ rfl (fun w0 R0=> ?_)
  refine za 0 (AM.okN ?_)
  dsimp only[b0d]
  refine AM.main _ rfl (fun w0 R0=> ?_)
  refine za 1 (AM.okN ?_)
  dsimp only[b0d]
  refine wn rfl zi ?_
  refine AM.nil ?_
  dsimp only[cA,cN]
  refine zm (yR ?_)
  refine wg yn zo (i0m e)
 have e1:l0d m=68:=by rw[l0d,if_neg (by rw[hd];simp),if_neg (by rw[hf];simp)]
 have e:a0s m=(inM m,⟨m.ty,68,m.id,m.tok,g0c m.opts,[]⟩,0):=by rw[e0,n0Y,e1]
 refine zr ?_
 refine zq ?_
 refine za 1 (zE (y5 (zm (zB ?_))))
 refine AW.regionM [(0,false),(1,false),(2,true),(3,true),(4,false)] (by kernel_rfl) (by kernel_rfl) (by exact(by exact a0G 2 3 rfl rfl (by exact a0G 3 2 rfl rfl a0D))) ?_
 dsimp only[List.eraseIdx]
 refine xi ?_
 refine yL ?_
 refine AM.main _ rfl (fun w0 R0=> ?_)
 refine za 0 (AM.okN ?_)
 dsimp only[b0d]
 refine AM.main _ rfl (fun w0 R0=> ?_)
 refine za 1 (AM.okN ?_)
 dsimp only[b0d]
 refine wn rfl zi ?_
 refine AM.nil ?_
 dsimp only[cA,cN]
 refine zm (yR ?_)
 refine wg yn zo (i0m e)
def ltO (os:List Opt)(n:Int):List Opt:=os.filter fun o=>decide (o.num<n)
def gtO (os:List Opt)(n:Int):List Opt:=os.filter fun o=>decide (n<o.num)
def eqO (n:Int)(vs:List (List UInt8)):List Opt:=vs.map fun v=>⟨n,v⟩
def d0p (os:List Opt)(n:Int)(vs:List (List UInt8)):List Opt:=ltO os n++eqO n vs++gtO os n
theorem h0J (os:List Opt)(o:Opt)(n:Int):ltO (os++[o]) n=if o.num<n then ltO os n++[o]else ltO os n:=by
 unfold ltO
 rw[List.filter_append]
 by_cases h:o.num<n<;>simp[h]
theorem h0K (os:List Opt)(o:Opt)(n:Int):gtO (os++[o]) n=if n<o.num then gtO os n++[o]else gtO os n:=by
 unfold gtO
 rw[List.filter_append]
 by_cases h:n<o.num<;>simp[h]
theorem g0W (os:List Opt)(n:Int):(ltO os n).length≤os.length:=List.length_filter_le _ _
theorem g0Z (os:List Opt)(n:Int):(gtO os n).length≤os.length:=List.length_filter_le _ _
theorem f0H (n:Int)(vs:List (List UInt8)):(eqO n vs).length=vs.length:=by simp[eqO]
theorem c0d {os:List Opt}{n:Int}{vs:List (List UInt8)}{o:Opt}(h:o∈d0p os n vs):o∈os∨ ∃v∈vs,o=⟨n,v⟩:=by
 unfold d0p ltO gtO eqO at h
 simp only[List.mem_append,List.mem_filter,List.mem_map]at h
 rcases h with(h|⟨v,h,rfl⟩)|h
 ·exact .inl h.1
 ·exact .inr ⟨v,h,rfl⟩
 exact .inl h.1
theorem f0o (os:List Opt)(n:Int)(vs:List (List UInt8)):(d0p os n vs).length≤os.length+os.length+vs.length:=by
 have:=g0W os n
 have:=g0Z os n
 simp only[d0p,cH,f0H];omega
theorem l0Q (m:Msg)(n:Int)(vs:List (List UInt8))(h1:m.tok.length≤140737488355328)(h2:m.pay.length≤140737488355328)(h3:m.opts.length≤100000)(h4:vs.length≤100000)(hat: ∀o∈m.opts,o.val.length≤140737488355328)(hvs: ∀v∈vs,v.length≤140737488355328):
  Sp Tryz.prog 25 [b0s m,.val (.int .i64 n),m0P vs] [] (Is (b0s ⟨m.ty,m.code,m.id,m.tok,d0p m.opts n vs,m.pay⟩)):=by
 have hat2: ∀o∈d0p m.opts n vs,o.val.length≤140737488355328:=fun o ho=>by
  rcases c0d ho with h|⟨v,h,rfl⟩
  ·exact hat o h
  exact hvs v h
 have hsl:=f0o m.opts n vs
 refine yr Tryz.func25 _ Tryz.ntmps25 (fun w0 R0=> ?_)
 refine zB (zr ?_)
 refine ya ?_
 intro B1
 refine zd ?_
 intro B2
 refine zE (zm (zB (zr ?_)))
 refine zc (zE (zm (zB (zB (zr ?_)))))
 refine zq ?_
 refine zv ?_
 refine zR ?_
 refine zb (zE (zm (yT ?_)))
 refine AW.g ?_
 refine G.nilRow 96 2 ?_
 refine AW.u ?_
 refine zh [(1,_),(2,_),(3,_),(6,_),(15,_),(16,_)] (fun nn E H=> ∃(k:Nat) (V:Value),(k≤m.opts.length)∧(V.oneCell'=true)∧nn=m.opts.length-k∧E= [(7,.val V),(17,.val (.int .i64 (k:Int)))]∧H= [.row V 96 2 (ltO (m.opts.take k) n).length (a0L (ltO (m.opts.take k) n)),.blk B2 29 6 [.val (.int .i64 0),.val (.int .i64 0),.val (.int .i64 0),.val (.slice none 0 0),.val (.slice none 0 0),.val (.slice none 0 0)],.blk B1 29 6 [.val (.int .i64 m.ty),.val (.int .i64 m.code),.val (.int .i64 m.id),roB m.tok,roO m.opts,roB m.pay]]) _ (⟨0,_,by omega,rfl,rfl,rfl,rfl⟩) ?_
 rintro nn E H ⟨k,V,h5,hV,rfl,rfl,rfl⟩
 dsimp only[cA,cN]
 have hl:=g0W (m.opts.take k) n
 rw[List.length_take]at hl
 refine zB (zr ?_)
 refine zN (zE (zm (zB ?_)))
 refine yk (fun h6=> ?_) (fun h6=> ?_)<;>(try simp only[wr]at h6)
 ·have hk:k<m.opts.length:=by omega
  have hsc:=h0J (m.opts.take k) (oat m.opts k) n
  rw[←a0i Opt.none hk]at hsc
  refine yI (zm (zB (yT (zB (zr ?_)))))
  refine z8 ?_
  refine yY ?_
  refine zd ?_
  intro B3
  refine za 0 (zE (zm (zB (zr ?_))))
  refine zq ?_
  refine zt ?_
  refine zb ?_
  refine zN (zE (zm ?_))
  refine yk (fun h7=> ?_) (fun h7=> ?_)<;>(try simp only[wr]at h7)
  ·rw[if_pos h7]at hsc
   refine zr ?_
   refine zb ?_
   refine zy ?_
   refine zQ ?_
   intro B4
   refine AO.g ?_
   refine z6 0 27 ?_
   refine xz 27 ?_
   refine AO.u ?_
   dsimp only[List.eraseIdx]
   refine zw 1 ?_
   intro V5 hV5
   refine zc (zE (y5 (zm (zr ?_))))
   refine zA ?_
   refine zb (zE ?_)
   refine zH _ _ _ (by omega) (⟨k+1,_,by omega,‹_›,rfl,rfl,by rw[hsc,a0E,cH]⟩)
  rw[if_neg (by omega)]at hsc
  refine yI (y5 (zm (zr ?_)))
  refine zA ?_
  refine zb (zE ?_)
  refine zH _ _ _ (by omega) (⟨k+1,_,by omega,hV,rfl,rfl,by rw[hsc]⟩)
 obtain rfl:k=m.opts.length:=by omega
 rw[List.take_length]at hl⊢
 refine xx ?_
 refine xp ?_
 refine xu ?_
 refine y2 (zm (zB (zB (zr ?_))))
 refine zb ?_
 refine zR ?_
 refine zb (zE (zm (yT ?_)))
 refine zh [(1,_),(3,_),(6,_),(30,_),(31,_)] (fun nn E H=> ∃(j:Nat) (V:Value),(j≤vs.length)∧(V.oneCell'=true)∧nn=vs.length-j∧E= [(7,.val V),(32,.val (.int .i64 (j:Int)))]∧H= [.row V 96 2 (ltO m.opts n++eqO n (vs.take j)).length (a0L (ltO m.opts n++eqO n (vs.take j))),.blk B2 29 6 [.val (.int .i64 0),.val (.int .i64 0),.val (.int .i64 0),.val (.slice none 0 0),.val (.slice none 0 0),.val (.slice none 0 0)],.blk B1 29 6 [.val (.int .i64 m.ty),.val (.int .i64 m.code),.val (.int .i64 m.id),roB m.tok,roO m.opts,roB m.pay]]) _ (⟨0,_,by omega,hV,rfl,rfl,by rw[show ltO m.opts n++eqO n (vs.take 0)=ltO m.opts n by simp[eqO]]⟩) ?_
 rintro nn E H ⟨j,V,h8,hV,rfl,rfl,rfl⟩
 dsimp only[cA,cN]
 have hl2:(ltO m.opts n++eqO n (vs.take j)).length=(ltO m.opts n).length+j:=by rw[cH,f0H,List.length_take];omega
 refine zB (zr ?_)
 refine zN (zE (zm (zB ?_)))
 refine yk (fun h9=> ?_) (fun h9=> ?_)<;>(try simp only[wr]at h9)
 ·have hj:j<vs.length:=by omega
  have hsc:ltO m.opts n++eqO n (vs.take (j+1))=(ltO m.opts n++eqO n (vs.take j))++[⟨n,vat vs j⟩]:=by
   rw[a0i [] hj];simp[eqO]
  refine yI (zm (zB (yT (zB (zr ?_)))))
  refine z8 ?_
  refine wl (O.loadR rfl rfl (by exact e0o (by omega) (by omega))) ?_
  refine zc (zE (zm (zr ?_)))
  refine zb ?_
  refine zb ?_
  refine zb ?_
  refine zT ?_
  refine zQ ?_
  intro B6
  refine AO.g ?_
  refine z6 0 40 ?_
  refine xz 40 ?_
  refine AO.u ?_
  dsimp only[List.eraseIdx]
  refine zw 0 ?_
  intro V7 hV7
  refine zc (zE (y5 (zm (zr ?_))))
  refine zA ?_
  refine zb (zE ?_)
  refine zn _ _ _ (by omega) (⟨j+1,_,by omega,‹_›,rfl,rfl,by rw[hsc,a0E,cH]⟩)
 obtain rfl:j=vs.length:=by omega
 rw[List.take_length]at hl2⊢
 refine xx ?_
 refine xp ?_
 refine xu ?_
 refine y2 (zm (zB (zB (zr ?_))))
 refine zq ?_
 refine zv ?_
 refine zR ?_
 refine zb (zE (zm (yT ?_)))
 refine zh [(1,_),(3,_),(6,_),(44,_),(45,_)] (fun nn E H=> ∃(i:Nat) (V:Value),(i≤m.opts.length)∧(V.oneCell'=true)∧nn=m.opts.length-i∧E= [(7,.val V),(46,.val (.int .i64 (i:Int)))]∧H= [.row V 96 2 (ltO m.opts n++eqO n vs++gtO (m.opts.take i) n).length (a0L (ltO m.opts n++eqO n vs++gtO (m.opts.take i) n)),.blk B2 29 6 [.val (.int .i64 0),.val (.int .i64 0),.val (.int .i64 0),.val (.slice none 0 0),.val (.slice none 0 0),.val (.slice none 0 0)],.blk B1 29 6 [.val (.int .i64 m.ty),.val (.int .i64 m.code),.val (.int .i64 m.id),roB m.tok,roO m.opts,roB m.pay]]) _ (⟨0,_,by omega,hV,rfl,rfl,by rw[show ltO m.opts n++eqO n vs++gtO (m.opts.take 0) n=ltO m.opts n++eqO n vs by simp[gtO]]⟩) ?_
 rintro nn E H ⟨i,V,h10,hV,rfl,rfl,rfl⟩
 dsimp only[cA,cN]
 have hl3:=g0Z (m.opts.take i) n
 rw[List.length_take]at hl3
 have hl4:(ltO m.opts n++eqO n vs++gtO (m.opts.take i) n).length=(ltO m.opts n++eqO n vs).length+(gtO (m.opts.take i) n).length:=List.length_append
 refine zB (zr ?_)
 refine zN (zE (zm (zB ?_)))
 refine yk (fun h11=> ?_) (fun h11=> ?_)<;>(try simp only[wr]at h11)
 ·have hk:i<m.opts.length:=by omega
  have hsc:=h0K (m.opts.take i) (oat m.opts i) n
  rw[←a0i Opt.none hk]at hsc
  refine yI (zm (zB (yT (zB (zr ?_)))))
  refine z8 ?_
  refine yY ?_
  refine zd ?_
  intro B8
  refine za 0 (zE (zm (zB (zr ?_))))
  refine zq ?_
  refine zt ?_
  refine zb ?_
  refine yw (zE (zm ?_))
  refine yk (fun h12=> ?_) (fun h12=> ?_)<;>(try simp only[wr]at h12)
  ·rw[if_pos h12]at hsc
   refine zr ?_
   refine zb ?_
   refine zy ?_
   refine zQ ?_
   intro B9
   refine AO.g ?_
   refine z6 0 56 ?_
   refine xz 56 ?_
   refine AO.u ?_
   dsimp only[List.eraseIdx]
   refine zw 1 ?_
   intro V10 hV10
   refine zc (zE (y5 (zm (zr ?_))))
   refine zA ?_
   refine zb (zE ?_)
   refine zH _ _ _ (by omega) (⟨i+1,_,by omega,‹_›,rfl,rfl,by rw[hsc,←List.append_assoc,a0E,List.length_append (bs:= [_])]⟩)
  rw[if_neg (by omega)]at hsc
  refine yI (y5 (zm (zr ?_)))
  refine zA ?_
  refine zb (zE ?_)
  refine zH _ _ _ (by omega) (⟨i+1,_,by omega,hV,rfl,rfl,by rw[hsc]⟩)
 obtain rfl:i=m.opts.length:=by omega
 rw[List.take_length]
 refine AW.g ?_
 refine z9 0 [7] ?_
 refine AW.u ?_
 try dsimp only[List.map,List.eraseIdx,cA,cN]
 refine xx ?_
 refine xp ?_
 refine xu ?_
 refine y2 (zm (zB (zr ?_)))
 refine zD ?_
 refine zb ?_
 refine wl (xl rfl Tryz.func75 rfl rfl rfl (m0w m (d0p m.opts n vs) h1 h2 (by omega) hat2)) ?_
 refine za 0 (zE (zm (yR ?_)))
 refine AQ.retCell rfl rfl (by repeat(exact List.Mem.head _)) (by(dsimp only[List.set,cA,cN,List.take,List.drop];rfl)) rfl nS (⟨rfl,rfl⟩)
end Go.Proofs.YtojomcdjcpmnkaaGreat.By
namespace Go.Proofs.YtojomcdjcpmnkaaGreat.By
open Go.RowKit L A Dk
attribute [local irreducible] AW AQ AO
theorem i0c: ∀{l:Int} {os:List Opt},AscO l os↔os.Pairwise (fun a b=>a.num≤b.num)∧ ∀o∈os,l≤o.num∧o.num≤65535∧(o.val.length:Int)≤1034
 |l,[]=>by simp[AscO]
 | l,o::os=>by
  rw[AscO,i0c,List.pairwise_cons]
  simp only[List.mem_cons,forall_eq_or_imp]
  constructor
  ·rintro⟨h1,h2,h3,h4,h5⟩
   exact⟨⟨fun a ha=>(h5 a ha).1,h4⟩,⟨h1,h2,h3⟩,fun a ha=>⟨Int.le_trans h1 (h5 a ha).1,(h5 a ha).2⟩⟩
  rintro⟨⟨h1,h2⟩,⟨h3,h4,h5⟩,h6⟩
  exact⟨h3,h4,h5,h2,fun a ha=>⟨h1 a ha,(h6 a ha).2⟩⟩
theorem k0M {os:List Opt}{n:Int}{vs:List (List UInt8)}(h:AscO 0 os)(hn:0≤n∧n≤65535)(hv: ∀v∈vs,(v.length:Int)≤1034):AscO 0 (d0p os n vs):=by
 rw[i0c]at h⊢
 obtain⟨h1,h2⟩:=h
 refine⟨?_,fun o ho=> ?_⟩
 ·unfold d0p ltO gtO eqO
  rw[List.pairwise_append,List.pairwise_append]
  refine⟨⟨h1.filter _,?_,?_⟩,h1.filter _,?_⟩
  ·rw[List.pairwise_map]
   exact List.Pairwise.imp (R:=fun _ _=>True) (fun _=>Int.le_refl _) (List.pairwise_of_forall (fun _ _=>trivial))
  ·intro a ha b hb
   simp only[List.mem_filter,cQ,List.mem_map]at ha hb
   obtain⟨v, -,rfl⟩:=hb
   simp only;omega
  intro a ha b hb
  simp only[List.mem_append,List.mem_filter,cQ,List.mem_map]at ha hb
  rcases ha with ha|⟨v, -,rfl⟩
  ·omega
  simp only;omega
 rcases c0d ho with ho|⟨v,hv',rfl⟩
 ·exact h2 o ho
 exact⟨hn.1,hn.2,hv v hv'⟩
theorem e0K (n:Int): ∀os:List Opt,(ltO os n).length+(b0J os n).length+(gtO os n).length=os.length
 | []=>rfl
 |o::os=>by
  have:=e0K n os
  unfold ltO b0J gtO at*
  simp only[List.filter_cons,List.length_map]at*
  rcases Int.lt_trichotomy o.num n with h|h|h
  ·rw[if_pos (by simpa using h),if_neg (by simp;omega),if_neg (by simp;omega)];simp only[cL];omega
  ·rw[if_neg (by simp;omega),if_pos (by simpa using h),if_neg (by simp;omega)];simp only[cL];omega
  rw[if_neg (by simp;omega),if_neg (by simp;omega),if_pos (by simpa using h)];simp only[cL];omega
theorem j0m (os:List Opt)(n:Int)(v:List UInt8):(d0p os n (b0J os n++[v])).length=os.length+1:=by
 have:=e0K n os
 simp only[d0p,cH,f0H,cL,cE];omega
theorem h0Y {os:List Opt}{n:Int}{v:List UInt8}(h:v∈b0J os n): ∃o∈os,o.val=v:=by
 unfold b0J at h
 obtain⟨o,ho,rfl⟩:=List.mem_map.1 h
 exact⟨o,(List.mem_filter.1 ho).1,rfl⟩
def m0u (c:Int):Prop:=0≤c∧c≤255∧h0p c
def OptsOk (n:Nat)(os:List Opt):Prop:=AscO 0 os∧os.length≤n∧ ∀o∈os,o.val.length≤5
theorem OptsOk.add {c:Nat}{os:List Opt}(h:OptsOk c os){n:Int}(hn:0≤n∧n≤65535){v:List UInt8}(hv:v.length≤5):OptsOk (c+1) (d0p os n (b0J os n++[v])):=by
 have hm: ∀w∈b0J os n++[v],w.length≤5:=fun w hw=>by
  rcases List.mem_append.1 hw with hw|hw
  ·obtain⟨o,ho,rfl⟩:=h0Y hw
   exact h.2.2 o ho
  obtain rfl:w=v:=by simpa using hw
  exact hv
 refine⟨k0M h.1 hn fun w hw=>by have:=hm w hw;omega,by rw[j0m];have:=h.2.1;omega,fun o ho=> ?_⟩
 rcases c0d ho with ho|⟨w,hw,rfl⟩
 ·exact h.2.2 o ho
 exact hm w hw
theorem o0r {m:Msg}{n:Int}{vs:List (List UInt8)}{N:Nat}{xs:List AV}(e1:N=vs.length)(e2:xs=bsA vs)(h1:m.tok.length≤140737488355328)(h2:m.pay.length≤140737488355328)(h3:m.opts.length≤100000)(h4:vs.length≤100000)(hat: ∀o∈m.opts,o.val.length≤140737488355328)(hvs: ∀v∈vs,v.length≤140737488355328):
  Sp Tryz.prog 25 [b0s m,.val (.int .i64 n),.ro false N xs] [] (Is (b0s ⟨m.ty,m.code,m.id,m.tok,d0p m.opts n vs,m.pay⟩)):=by
 subst e1;subst e2
 exact l0Q m n vs h1 h2 h3 h4 hat hvs
theorem OptsOk.big {n:Nat}{os:List Opt}(h:OptsOk n os): ∀o∈os,o.val.length≤140737488355328:=fun o ho=>by have:=h.2.2 o ho;omega
theorem OptsOk.vals {n:Nat}{os:List Opt}(h:OptsOk n os){x:Int}{v:List UInt8}(hv:v.length≤5): ∀w∈b0J os x++[v],w.length≤140737488355328:=fun w hw=>by
 rcases List.mem_append.1 hw with hw|hw
 ·obtain⟨o,ho,rfl⟩:=h0Y hw
  have:=h.2.2 o ho;omega
 obtain rfl:w=v:=by simpa using hw
 omega
def MsgOk (c:Int)(m:Msg):Prop:=ValM m∧m.code=c∧m.tok.length≤8∧m.pay.length≤20∧m.opts.length≤5∧ ∀o∈m.opts,o.val.length≤5
theorem MsgOk.sm {c:Int}{m:Msg}(h:MsgOk c m):SmM m:=⟨by have:=h.2.2.1;omega,by have:=h.2.2.2.1;omega,by have:=h.2.2.2.2.1;omega,fun o ho=>by have:=h.2.2.2.2.2 o ho;omega⟩
theorem d0Z {m:Msg}(h1:m.tok.length≤8)(h2:m.pay.length≤20)(h3:m.opts.length≤5)(ha:AscO 0 m.opts)(h4: ∀o∈m.opts,o.val.length≤5):(raw m).length≤4096:=by
 have key: ∀(os:List Opt) (l:Int),(∀o∈os,o.val.length≤5)→(f0S l os).length≤os.length*10:=by
  intro os
  induction os with
  |nil=>intro l _;simp[f0S]
  |cons o os ih=>
   intro l h
   have g1:=ih o.num fun p hp=>h p (List.mem_cons_of_mem _ hp)
   have g2:=j0Z (o.num-l) o.val.length
   have g3:=h o (List.mem_cons_self ..)
   simp only[f0S,cH,cL];omega
 have g1:=key m.opts 0 h4
 have g2:(if m.pay= []then []else(255:UInt8)::m.pay).length≤m.pay.length+1:=by split<;>simp
 simp only[raw,f0B,cH,cL,cE]at g2⊢
 omega
theorem MsgOk.mk {t c i:Int}{x p:List UInt8}{os:List Opt}(ht:0≤t∧t<2)(hc:m0u c)(hc0:c≠0)(hi:0≤i∧i<65536)(hx:x.length≤4)(ho:OptsOk 5 os)(hp:p.length≤20):MsgOk c ⟨t,c,i,x,os,p⟩:=by
 refine⟨⟨⟨⟨ht.1,by simp only;omega,hc.1,hc.2.1,hc.2.2⟩,⟨hi.1,by simp only;omega,by simp only;omega,by have:=ho.2.1;simp only;omega⟩,ho.1,fun h=>absurd h hc0,fun h=>by simp only at h;omega,by simp only;omega⟩,?_⟩,rfl,by simp only;omega,hp,ho.2.1,ho.2.2⟩
 have:=d0Z (m:=⟨t,c,i,x,os,p⟩) (by simp only;omega) hp ho.2.1 ho.1 ho.2.2
 omega
theorem MsgOk.zero {t i:Int}(ht:0≤t∧t<4)(hi:0≤i∧i<65536):MsgOk 0 ⟨t,0,i,[],[],[]⟩:=by
 refine⟨⟨⟨⟨ht.1,by simp only;omega,by simp,by simp,.inl rfl⟩,⟨hi.1,by simp only;omega,by simp,by simp⟩,trivial,fun _=>by simp,fun _=>rfl,by simp⟩,?_⟩,rfl,by simp,by simp,by simp,by simp⟩
 have:=d0Z (m:=⟨t,0,i,[],[],[]⟩) (by simp) (by simp) (by simp) trivial (by simp)
 omega
def e0x (m:Msg):Prop:=(m.opts.length≤20∧m.tok.length≤900∧m.pay.length≤900)∧ ∀k,k<m.opts.length→(oat m.opts k).val.length≤900
instance (m:Msg):Decidable (e0x m):=by unfold e0x;infer_instance
theorem d0C (b:List UInt8):Sp Tryz.prog 53 [roB b] [] (Is (.val (.bool (decide ((b.length:Int)≤900))))):=by
 refine yr Tryz.func53 _ Tryz.ntmps53 (fun w0 R0=> ?_)
 refine zB (zr ?_)
 refine zc (zE (zm (zB (zr ?_))))
 refine zb ?_
 refine zR ?_
 refine wl xF ?_
 refine zc (zE (zm (yR ?_)))
 refine yd
theorem j0i (m:Msg)(hp:m.opts.length≤maxLen):Sp Tryz.prog 9 [b0s m] [] (Is (.val (.bool (decide (e0x m))))):=by
 unfold maxLen at hp
 refine yr Tryz.func9 _ Tryz.ntmps9 (fun w0 R0=> ?_)
 refine zB (zr ?_)
 refine ya ?_
 intro B1
 refine zc (zE (zm (zB (zB (zr ?_)))))
 refine zq ?_
 refine zt ?_
 refine zR ?_
 refine zb (zE (zm (yT ?_)))
 refine zh [(1,_),(6,_),(7,_)] (fun nn E H=> ∃(k:Nat),(k≤m.opts.length)∧(∀j,j<k→(oat m.opts j).val.length≤900)∧nn=m.opts.length-k∧E= [(8,.val (.int .i64 (k:Int)))]∧H= [.blk B1 29 6 [.val (.int .i64 m.ty),.val (.int .i64 m.code),.val (.int .i64 m.id),roB m.tok,roO m.opts,roB m.pay]]) _ (⟨0,by omega,by omega,rfl,rfl,rfl⟩) ?_
 rintro nn E H ⟨k,hk,hh,rfl,rfl,rfl⟩
 dsimp only[cA,cN]
 refine zB (zr ?_)
 refine zN (zE (zm (zB ?_)))
 refine yk (fun h2=> ?_) (fun h2=> ?_)<;>(try simp only[wr]at h2)
 ·have hk2:k<m.opts.length:=by omega
  refine yI (zm (zB (yT (zB (zr ?_)))))
  refine z8 ?_
  refine yY ?_
  refine zd ?_
  intro B2
  refine za 0 (zE (zm (zB (zr ?_))))
  refine zq ?_
  refine zt ?_
  refine wl (xl rfl Tryz.func53 rfl rfl rfl (d0C _)) ?_
  refine xf (zE (zm ?_))
  refine yk (fun h3=> ?_) (fun h3=> ?_)<;>(try simp only[wr]at h3)
  ·have e:decide (e0x m)=false:=decide_eq_false fun hl=>by have:=hl.2 k hk2;omega
   refine zB (zr ?_)
   refine zc (zE (zm (yR ?_)))
   refine xN (y0 ?_)
   refine AQ.loopR ?_
   refine xN (y0 ?_)
   refine AQ.ret1 rfl rfl nS (⟨by rw[e];rfl,rfl⟩)
  refine yI (y5 (zm (zr ?_)))
  refine zA ?_
  refine zb (zE ?_)
  refine zH _ _ _ (by omega) (⟨k+1,by omega,fun j hj=>(Nat.lt_or_ge j k).elim (hh j) (fun h5=>by rw[show j=k by omega];omega),rfl,rfl,rfl⟩)
 obtain rfl:k=m.opts.length:=by omega
 refine xx ?_
 refine xp ?_
 refine xu ?_
 refine y2 (zm (zB (zr ?_)))
 refine zq ?_
 refine zt ?_
 refine zR ?_
 refine wl xF ?_
 refine zb ?_
 refine zJ ?_
 refine zl 22 ?_
 refine AO.opG rfl rfl rfl (fun hp=>wo 23 rfl (by exact hp) (xl rfl Tryz.func53 rfl rfl rfl (d0C _))) ?_
 refine zO ?_
 refine zb ?_
 refine zJ ?_
 refine zl 27 ?_
 refine AO.opG rfl rfl rfl (fun hp=>wo 28 rfl (by exact hp) (xl rfl Tryz.func53 rfl rfl rfl (d0C _))) ?_
 refine zO ?_
 refine zc (zE (zm (yR ?_)))
 have e:decide (e0x m)=(decide ((m.opts.length:Int)≤20)&&decide ((m.tok.length:Int)≤900)&&decide ((m.pay.length:Int)≤900)):=g0p (by
  simp only[e0x,Bool.and_eq_true,cQ]
  exact⟨fun h=>by have:=h.1;omega,fun h=>⟨by omega,hh⟩⟩)
 refine AQ.ret1 rfl rfl nS (⟨congrArg (fun z=>AV.val (.bool z)) e.symm,rfl⟩)
def drL:List Int:= [1,3,4,6,7,11,12,14,15,16,17,23,27,39,60,252,258,292,300]
theorem q0z {z:Int}(h0:0≤z)(h1:z<19){j:Nat}(hj:j=z.toNat*1):([.val (.int .i64 1),.val (.int .i64 3),.val (.int .i64 4),.val (.int .i64 6),.val (.int .i64 7),.val (.int .i64 11),.val (.int .i64 12),.val (.int .i64 14),.val (.int .i64 15),.val (.int .i64 16),.val (.int .i64 17),.val (.int .i64 23),.val (.int .i64 27),.val (.int .i64 39),.val (.int .i64 60),.val (.int .i64 252),.val (.int .i64 258),.val (.int .i64 292),.val (.int .i64 300)]:List AV)[j]? =some (.val (.int .i64 (drL.getD z.toNat 0))):=by
 subst hj
 rw[Nat.mul_one]
 have h2:z.toNat<19:=by omega
 have: ∀k,k<19→([1,3,4,6,7,11,12,14,15,16,17,23,27,39,60,252,258,292,300]:List Int)[k]? =some (drL.getD k 0):=by decide
 have:=congrArg (Option.map (fun n:Int=>AV.val (.int .i64 n))) (this _ h2)
 rw[←List.getElem?_map]at this
 exact this
theorem p0l {z:Int}(h0:0≤z)(h1:z<19):drL.getD z.toNat 0∈drL:=by
 have: ∀k,k<19→drL.getD k 0∈drL:=by decide
 exact this _ (by omega)
theorem q0y {n:Int}(h:n∈drL):0≤n∧n≤65535:=by
 have: ∀n∈drL,0≤n∧n≤65535:=by decide
 exact this n h
def Dr (n:Nat)(os:List Opt):Prop:=OptsOk n os∧ ∀o∈os,o.num∈drL
theorem Dr.add {c:Nat}{os:List Opt}(h:Dr c os){n:Int}(hn:n∈drL){v:List UInt8}(hv:v.length≤5):Dr (c+1) (d0p os n (b0J os n++[v])):=
 ⟨h.1.add (q0y hn) hv,fun o ho=>by
  rcases c0d ho with ho|⟨w,hw,rfl⟩
  ·exact h.2 o ho
  exact hn⟩
theorem l0G (ty code id:Int)(tok:List UInt8)(os:List Opt)(pay:List UInt8)(n:Int)(h3:os.length≤1000000)(hat: ∀o∈os,o.val.length≤140737488355328):Sp Tryz.prog 71 [b0s ⟨ty,code,id,tok,os,pay⟩,.val (.int .i64 n)] []
  (fun v' Hn=> ∃v:Value,v'= .val v∧v.oneCell'=true∧Hn= [.row v 22 1 (b0J os n).length (bsA (b0J os n))]∧(b0J os n).length≤os.length):=
 (n0N ⟨ty,code,id,tok,os,pay⟩ n h3 hat).mono fun r H' ⟨v,h1,h2,h3⟩=>⟨v,h1,h2,h3,c0P _ _⟩
abbrev wO (m:Msg)(os:List Opt):Msg:=⟨m.ty,m.code,m.id,m.tok,os,m.pay⟩
theorem h0g (b:Nat)(l:List Int)(k:Nat)(m:Msg)(hl:l.length≤maxLen)(hk:k≤l.length)(hm:m.opts= [])(ht:m.tok.length≤1000)(hp:m.pay.length≤1000):
  Sp Tryz.prog 56 [ptr b,b0s m] [e0E b l k] (Gen b l fun r=> ∃os,Dr 5 os∧r=b0s (wO m os)):=by
 obtain⟨ty,code,id,tok,opts,pay⟩:=m
 simp only at hm ht hp
 subst hm
 refine yr Tryz.func56 _ Tryz.ntmps56 (fun w0 R0=> ?_)
 refine zB (zr ?_)
 refine ya ?_
 intro B1
 refine zd ?_
 intro B2
 refine zE (zm (zB (zB (zr ?_))))
 refine zb ?_
 refine AO.callMG 2 rfl rfl Tryz.func33 rfl rfl rfl rfl rfl rfl (a0N _ l _ _ hl (by assumption) (by omega) (by omega)) ?_
 rintro _ _ ⟨⟨z3,hz03,hz13,rfl⟩,kd3,hkd3,rfl⟩
 dsimp only[cA,cN,List.eraseIdx]
 refine zc (zE (zm (yT ?_)))
 obtain⟨c0,rfl⟩: ∃c:Nat,z3=(c:Int):=⟨z3.toNat,by omega⟩
 refine zh [(0,_),(3,_),(4,_)] (fun nn E H=> ∃(c:Nat) (os:List Opt) (kk:Nat),(c≤5)∧(Dr (5-c) os)∧(kk≤l.length)∧c=nn∧E= [(5,.val (.int .i64 (c:Int)))]∧H= [e0E b l kk,.blk B2 29 6 [.val (.int .i64 0),.val (.int .i64 0),.val (.int .i64 0),.val (.slice none 0 0),.val (.slice none 0 0),.val (.slice none 0 0)],.blk B1 29 6 [.val (.int .i64 ty),.val (.int .i64 code),.val (.int .i64 id),roB tok,roO os,roB pay]]) _ (⟨c0,[],kd3,by omega,⟨⟨trivial,by simp,by simp⟩,by simp⟩,hkd3,rfl,rfl,rfl⟩) ?_
 rintro nn E H ⟨c,os,kk,hc,ho,hkk,rfl,rfl,rfl⟩
 dsimp only[cA,cN]
 have hol:=ho.1.2.1
 have hal:=fun x=>c0P os x
 refine zB (zB (zr ?_))
 refine zb ?_
 refine yw (zE (zm ?_))
 refine yk (fun h=> ?_) (fun h=> ?_)<;>(try simp only[wr]at h)
 ·obtain⟨j,rfl⟩: ∃j,c=j+1:=⟨c-1,by omega⟩
  refine yI (zm (zB (yT (zB (zr ?_)))))
  refine zQ ?_
  intro B4
  refine AO.g ?_
  refine z6 0 13 ?_
  refine xz 13 ?_
  refine AO.u ?_
  dsimp only[List.eraseIdx]
  refine zb ?_
  refine AO.callMG 0 rfl rfl Tryz.func33 rfl rfl rfl rfl rfl rfl (a0N _ l _ _ hl (by assumption) (by omega) (by omega)) ?_
  rintro _ _ ⟨⟨z5,hz05,hz15,rfl⟩,kd5,hkd5,rfl⟩
  dsimp only[cA,cN,List.eraseIdx]
  refine z8 ?_
  refine wl (O.loadR rfl rfl (by exact q0z (by assumption) (by assumption) rfl)) ?_
  refine zc (zE (zm ?_))
  refine AW.regionS [[(0,false),(1,false),(2,false),(3,false),(5,false),(4,true),(6,true),(7,false),(8,true)],[(9,false)],[(10,true)]] (by kernel_rfl) (by kernel_rfl) ?_
  refine AMS.go (by exact(by exact a0G 0 0 rfl rfl a0D)) ?_
  try dsimp only[List.eraseIdx]
  refine yL ?_
  refine xg ?_
  refine yL ?_
  refine xg ?_
  refine xg ?_
  refine AM.main _ rfl (fun w0 R0=> ?_)
  refine AO.opN (xl rfl Tryz.func71 rfl rfl rfl (l0G ty code id tok os pay _ (by omega) ho.1.big)) rfl rfl rfl ?_
  rintro _ _ ⟨V6,rfl,hV6,rfl,hb6⟩
  simp only[cA,cN]
  refine AM.ok ?_
  dsimp only[b0d]
  refine AM.main _ rfl (fun w0 R0=> ?_)
  refine AO.callMG 1 rfl rfl Tryz.func24 rfl rfl rfl rfl rfl rfl (b0X _ l _ 4 hl (by assumption) (by omega)) ?_
  rintro _ _ ⟨⟨x7,hx7,rfl⟩,kd7,hkd7,rfl⟩
  dsimp only[cA,cN,List.eraseIdx]
  refine AM.ok ?_
  dsimp only[b0d]
  refine xZ ?_
  refine AM.main _ rfl (fun w0 R0=> ?_)
  refine zw 1 ?_
  intro V8 hV8
  refine AO.g ?_
  refine yG 1 [26] ?_
  refine AO.u ?_
  dsimp only[List.map,List.eraseIdx,cA,cN]
  refine AM.ok ?_
  dsimp only[b0d]
  refine AM.nil ?_
  try dsimp only[cA,cN]
  refine AMS.go (by exact a0D) ?_
  try dsimp only[List.eraseIdx]
  refine wn rfl (O.call rfl Tryz.func25 rfl rfl rfl (o0r (m:=⟨ty,code,id,tok,os,pay⟩) (n:=drL.getD z5.toNat 0) (vs:=b0J os (drL.getD z5.toNat 0)++[x7]) (N:=(b0J os (drL.getD z5.toNat 0)).length+1) (xs:=bsA (b0J os (drL.getD z5.toNat 0))++[roB x7]) (by rw[cH];rfl) (d0N _ _).symm (by show tok.length≤_;omega) (by show pay.length≤_;omega) (by show os.length≤100000;omega) (by rw[cH];simp only[cL,cE];omega) ho.1.big (ho.1.vals (by omega)))) ?_
  refine AM.nil ?_
  try dsimp only[cA,cN]
  refine AMS.go (by exact(by exact a0G 3 2 rfl rfl a0D)) ?_
  try dsimp only[List.eraseIdx]
  refine AM.main _ rfl (fun w0 R0=> ?_)
  refine za 0 (AM.okN ?_)
  dsimp only[b0d]
  refine AM.nil ?_
  try dsimp only[cA,cN]
  refine AMS.nil (y5 (zm (zr ?_)))
  refine zb ?_
  refine yN ?_
  refine zc (zE ?_)
  rw[show((j+1:Nat):Int)-1=(j:Int) by omega]
  have hadd:=ho.add (p0l hz05 hz15) (v:=x7) (by omega)
  rw[show 5-(j+1)+1=5-j by omega]at hadd
  refine xU _ _ _ (by omega) (⟨j,_,_,by omega,hadd,‹_›,rfl,rfl,rfl⟩)
 obtain rfl:c=0:=by omega
 refine xx ?_
 refine xp ?_
 refine xu ?_
 refine y2 (zm (zB (zr ?_)))
 refine zD ?_
 refine za 1 (zE (zm (yR ?_)))
 refine AQ.retCell rfl rfl mM (by(dsimp only[List.set,cA,cN,List.take,List.drop];rfl)) rfl ⟨_,by repeat(first|exact List.Sublist.slnil|refine List.Sublist.cons_cons _ ?_|refine List.Sublist.cons _ ?_),List.Perm.refl _⟩ (⟨⟨os,ho,rfl⟩,kk,hkk,rfl⟩)
def rqL:List Int:= [69,68,65,132,129,160,95]
def DM (q:Bool)(m:Msg):Prop:=(0≤m.ty∧m.ty≤2)∧(if q=true then 1≤m.code∧m.code≤7 else m.code∈rqL)∧(0≤m.id∧m.id<65536)∧(m.tok.length≤4∧m.pay.length≤20)∧Dr 5 m.opts
def s0p (q:Bool)(r:AV):Prop:= ∃m,DM q m∧r=b0s m
theorem DM.code {q:Bool}{m:Msg}(h:DM q m):m0u m.code∧rq m.code=q∧rs m.code= !q:=by
 obtain⟨-,h, -⟩:=h
 cases q
 ·rw[if_neg (by simp)]at h
  have: ∀c∈rqL,(0≤c∧c≤255∧(c/32=0∨c/32=2∨c/32=4∨c/32=5))∧rq c=false∧rs c=true:=by decide
  exact this _ h
 rw[if_pos rfl]at h
 refine⟨⟨by omega,by omega,?_⟩,?_,?_⟩
 ·unfold h0p;omega
 ·unfold rq;rw[decide_eq_true h.1,decide_eq_true (show m.code≤31 by omega)];rfl
 unfold rs;exact decide_eq_false (by omega)
theorem DM.val {q:Bool}{m:Msg}(h:DM q m):ValM m:=by
 obtain⟨c1, -, -⟩:=h.code
 obtain⟨h1,h2,h3,h4,h5⟩:=h
 have hn0:m.code≠0:=by
  cases q
  ·rw[if_neg (by simp)]at h2
   have: ∀c∈rqL,c≠0:=by decide
   exact this _ h2
  rw[if_pos rfl]at h2;omega
 refine⟨⟨⟨h1.1,by omega,c1.1,c1.2.1,c1.2.2⟩,⟨h3.1,by omega,by omega,by have:=h5.1.2.1;omega⟩,h5.1.1,fun h=>absurd h hn0,fun h=>by omega,by omega⟩,?_⟩
 have:=d0Z (m:=m) (by omega) h4.2 h5.1.2.1 h5.1.1 h5.1.2.2
 omega
theorem s0t {ty code id:Int}{x p:List UInt8}:Coe (.agg [.val (.int .i64 ty),.val (.int .i64 code),.val (.int .i64 id),roB x,.val (.slice none 0 0),roB p]) (b0s ⟨ty,code,id,x,[],p⟩):=
 Coe.agg (.cons .rfl (.cons .rfl (.cons .rfl (.cons .rfl (.cons .nil (.cons .rfl .nil))))))
theorem g0I (b:Nat)(l:List Int)(k:Nat)(hl:l.length≤maxLen)(hk:k≤l.length):Sp Tryz.prog 13 [ptr b] [e0E b l k] (Gen b l (s0p true)):=by
 skip
 refine yr Tryz.func13 _ Tryz.ntmps13 (fun w0 R0=> ?_)
 refine zB (zr ?_)
 refine zd ?_
 intro B1
 refine zE (zm (zB (zr ?_)))
 refine zb ?_
 refine AO.callMG 1 rfl rfl Tryz.func33 rfl rfl rfl rfl rfl rfl (a0N _ l _ _ hl (by assumption) (by omega) (by omega)) ?_
 rintro _ _ ⟨⟨z2,hz02,hz12,rfl⟩,kd2,hkd2,rfl⟩
 dsimp only[cA,cN,List.eraseIdx]
 refine zb ?_
 refine AO.callMG 0 rfl rfl Tryz.func33 rfl rfl rfl rfl rfl rfl (a0N _ l _ _ hl (by assumption) (by omega) (by omega)) ?_
 rintro _ _ ⟨⟨z3,hz03,hz13,rfl⟩,kd3,hkd3,rfl⟩
 dsimp only[cA,cN,List.eraseIdx]
 refine zA ?_
 refine zb ?_
 refine AO.callMG 0 rfl rfl Tryz.func33 rfl rfl rfl rfl rfl rfl (a0N _ l _ _ hl (by assumption) (by omega) (by omega)) ?_
 rintro _ _ ⟨⟨z4,hz04,hz14,rfl⟩,kd4,hkd4,rfl⟩
 dsimp only[cA,cN,List.eraseIdx]
 refine zb ?_
 refine AO.callMG 0 rfl rfl Tryz.func24 rfl rfl rfl rfl rfl rfl (b0X _ l _ 4 hl (by assumption) (by omega)) ?_
 rintro _ _ ⟨⟨x5,hx5,rfl⟩,kd5,hkd5,rfl⟩
 dsimp only[cA,cN,List.eraseIdx]
 refine zb ?_
 refine AO.callMG 0 rfl rfl Tryz.func24 rfl rfl rfl rfl rfl rfl (b0X _ l _ 20 hl (by assumption) (by omega)) ?_
 rintro _ _ ⟨⟨x6,hx6,rfl⟩,kd6,hkd6,rfl⟩
 dsimp only[cA,cN,List.eraseIdx]
 refine zT ?_
 refine zd ?_
 intro B7
 refine za 0 (zE (zm (zB (zr ?_))))
 refine zb ?_
 refine zy ?_
 refine AO.g ?_
 refine G.coe 17 rfl s0t ?_
 refine AO.u ?_
 refine AO.callMG 1 rfl rfl Tryz.func56 rfl rfl rfl rfl rfl rfl (h0g _ l _ ⟨z2,1+z3,z4,x5,[],x6⟩ hl (by assumption) rfl (by simp only;omega) (by simp only;omega)) ?_
 rintro _ _ ⟨⟨os8,hos8,rfl⟩,kd8,hkd8,rfl⟩
 dsimp only[cA,cN,List.eraseIdx]
 refine za 2 (zE (zm (yR ?_)))
 have hdm:DM true ⟨z2,1+z3,z4,x5,os8,x6⟩:=⟨⟨hz02,by simp only;omega⟩,by rw[if_pos rfl];simp only;omega,⟨hz04,hz14⟩,⟨hx5,hx6⟩,hos8⟩
 refine AQ.retCell rfl rfl mM (by(dsimp only[List.set,cA,cN,List.take,List.drop];rfl)) rfl ⟨_,by repeat(first|exact List.Sublist.slnil|refine List.Sublist.cons_cons _ ?_|refine List.Sublist.cons _ ?_),List.Perm.refl _⟩ (⟨⟨_,hdm,rfl⟩,_,hkd8,rfl⟩)
 skip
end Go.Proofs.YtojomcdjcpmnkaaGreat.By
namespace Go.Proofs.YtojomcdjcpmnkaaGreat.By
open Go.RowKit L A
attribute [local irreducible] AW AQ AO
theorem l0c (m:Msg)(os:List Opt)(h1:m.tok.length≤140737488355328)(h2:m.pay.length≤140737488355328)(h3:os.length≤1000000)(hat: ∀o∈os,o.val.length≤140737488355328):
  Sp Tryz.prog 161 [b0s m,roO os] [] (Is (b0s ⟨m.ty,m.code,m.id,m.tok,os,m.pay⟩)):=by
 refine yr Tryz.func161 _ Tryz.ntmps161 (fun w0 R0=> ?_)
 refine zB (zr ?_)
 refine ya ?_
 intro B1
 refine zd ?_
 intro B2
 refine zE (zm (zB ?_))
 refine yv 7 ?_
 simp only[cT,cZ,cD,cO]
 refine yC ?_
 refine zY ?_
 refine wm (xl rfl Tryz.func138 rfl rfl rfl (f0L _ (by assumption))) ?_
 refine yC ?_
 refine zY ?_
 refine wm (xl rfl Tryz.func138 rfl rfl rfl (f0L _ (by assumption))) ?_
 refine yC ?_
 refine wh ?_
 simp only[a0l,cN,cA,cP]
 refine za 1 ?_
 refine zq ?_
 refine za 1 (zE (zm (zB (zr ?_))))
 refine zq ?_
 refine za 1 (zE (zm (zB (zB (zr ?_)))))
 refine zb ?_
 refine zR ?_
 refine zb (zE (zm (yT ?_)))
 refine AW.g ?_
 refine G.nilRow 96 2 ?_
 refine AW.u ?_
 refine zh [(2,_),(4,_),(16,_),(17,_)] (fun nn E H=> ∃(k:Nat) (V:Value),(k≤os.length)∧(V.oneCell'=true)∧nn=os.length-k∧E= [(18,.val (.int .i64 (k:Int)))]∧H= [.row V 96 2 k (a0L (os.take k)),.blk B2 29 6 [.val (.int .i64 0),.val (.int .i64 0),.val (.int .i64 0),.val (.slice none 0 0),.val (.slice none 0 0),.val (.slice none 0 0)],.blk B1 29 6 [.val (.int .i64 m.ty),.val (.int .i64 m.code),.val (.int .i64 m.id),roB m.tok,.val V,roB m.pay]]) _ (⟨0,_,by omega,rfl,rfl,rfl,rfl⟩) ?_
 rintro nn E H ⟨k,V,h4,hV,rfl,rfl,rfl⟩
 dsimp only[cA,cN]
 refine zB (zr ?_)
 refine zN (zE (zm (zB ?_)))
 refine yk (fun h5=> ?_) (fun h5=> ?_)<;>(try simp only[wr]at h5)
 ·have hk:k<os.length:=by omega
  have hv:(oat os k).val.length≤140737488355328:=hat _ (b0u Opt.none hk)
  have hsc:a0L (os.take (k+1))=a0L (os.take k)++[.val (.int .i64 (oat os k).num),roB (oat os k).val]:=by rw[a0i Opt.none hk,a0E]
  refine yI (zm (zB (yT (zB (zr ?_)))))
  refine z8 ?_
  refine yY ?_
  refine zd ?_
  intro B3
  refine za 0 (zE (zm ?_))
  refine yv 9 ?_
  simp only[cT,cZ,cD,cO]
  refine yC ?_
  refine zY ?_
  refine yC ?_
  refine yD ?_
  refine yC ?_
  refine yD ?_
  refine wm (xl rfl Tryz.func138 rfl rfl rfl (f0L _ (by assumption))) ?_
  refine wm yi ?_
  refine wm xc ?_
  refine wh ?_
  simp only[a0l,cN,cA,cP]
  refine zw 1 ?_
  intro V4 hV4
  refine zq ?_
  refine xn 3 (zE (y5 (zm (zr ?_))))
  refine zA ?_
  refine zb (zE ?_)
  refine zH _ _ _ (by omega) (⟨k+1,_,by omega,‹_›,rfl,rfl,by rw[hsc]⟩)
 obtain rfl:k=os.length:=by omega
 rw[List.take_length]
 refine AW.g ?_
 refine G.freezeCell 0 1 4 rfl rfl rfl ?_
 refine AW.u ?_
 refine xx ?_
 refine xp ?_
 refine xu ?_
 refine y2 (zm (zB (zr ?_)))
 refine zD ?_
 refine za 0 (zE (zm (yR ?_)))
 refine AQ.retCell rfl rfl (by repeat(exact List.Mem.head _)) (by(dsimp only[List.set,cA,cN,List.take,List.drop];rfl)) rfl nS (⟨rfl,rfl⟩)
theorem l0b {m:Msg}{os:List Opt}{N:Nat}{xs:List AV}(e1:N=os.length)(e2:xs=a0L os)(h1:m.tok.length≤140737488355328)(h2:m.pay.length≤140737488355328)(h3:os.length≤1000000)(hat: ∀o∈os,o.val.length≤140737488355328):
  Sp Tryz.prog 161 [b0s m,.ro false N xs] [] (Is (b0s ⟨m.ty,m.code,m.id,m.tok,os,m.pay⟩)):=by
 subst e1;subst e2;exact l0c m os h1 h2 h3 hat
theorem n0e (m:Msg)(n:Int)(vs:List (List UInt8))(h1:m.tok.length≤140737488355328)(h2:m.pay.length≤140737488355328)(h3:m.opts.length≤100000)(h4:vs.length≤100000)(hat: ∀o∈m.opts,o.val.length≤140737488355328)(hvs: ∀v∈vs,v.length≤140737488355328):
  Sp Tryz.prog 118 [b0s m,.val (.int .i64 n),m0P vs] [] (Is (b0s ⟨m.ty,m.code,m.id,m.tok,d0p m.opts n vs,m.pay⟩)):=by
 have hat2: ∀o∈d0p m.opts n vs,o.val.length≤140737488355328:=fun o ho=>by
  rcases c0d ho with h|⟨v,h,rfl⟩
  ·exact hat o h
  exact hvs v h
 have hsl:=f0o m.opts n vs
 refine yr Tryz.func118 _ Tryz.ntmps118 (fun w0 R0=> ?_)
 refine zB (zr ?_)
 refine ya ?_
 intro B1
 refine zd ?_
 intro B2
 refine zE (zm (zB (zr ?_)))
 refine zc ?_
 refine zc (zE (zm (zB (zB (zr ?_)))))
 refine zq ?_
 refine zv ?_
 refine zR ?_
 refine zb (zE (zm (yT ?_)))
 refine AW.g ?_
 refine G.nilRow 96 2 ?_
 refine AW.u ?_
 refine AW.g ?_
 refine G.nilRow 96 2 ?_
 refine AW.u ?_
 refine zh [(1,_),(2,_),(3,_),(6,_),(14,_),(15,_)] (fun nn E H=> ∃(k:Nat) (V V':Value),(k≤m.opts.length)∧(V.oneCell'=true)∧(V'.oneCell'=true)∧nn=m.opts.length-k∧E= [(7,.val V),(8,.val V'),(16,.val (.int .i64 (k:Int)))]∧H= [.row V 96 2 (ltO (m.opts.take k) n).length (a0L (ltO (m.opts.take k) n)),.row V' 96 2 (gtO (m.opts.take k) n).length (a0L (gtO (m.opts.take k) n)),.blk B2 29 6 [.val (.int .i64 0),.val (.int .i64 0),.val (.int .i64 0),.val (.slice none 0 0),.val (.slice none 0 0),.val (.slice none 0 0)],.blk B1 29 6 [.val (.int .i64 m.ty),.val (.int .i64 m.code),.val (.int .i64 m.id),roB m.tok,roO m.opts,roB m.pay]]) _ (⟨0,_,_,by omega,rfl,rfl,rfl,rfl,rfl⟩) ?_
 rintro nn E H ⟨k,V,V',h5,hV,hV',rfl,rfl,rfl⟩
 dsimp only[cA,cN]
 have hl1:=g0W (m.opts.take k) n
 have hl2:=g0Z (m.opts.take k) n
 rw[List.length_take]at hl1 hl2
 refine zB (zr ?_)
 refine zN (zE (zm (zB ?_)))
 refine yk (fun h6=> ?_) (fun h6=> ?_)<;>(try simp only[wr]at h6)
 ·have hk:k<m.opts.length:=by omega
  have hsc:=h0J (m.opts.take k) (oat m.opts k) n
  have hsg:=h0K (m.opts.take k) (oat m.opts k) n
  rw[←a0i Opt.none hk]at hsc hsg
  refine yI (zm (zB (yT (zB (zr ?_)))))
  refine z8 ?_
  refine yY ?_
  refine zd ?_
  intro B3
  refine za 0 (zE (zm (yT (zB (zr ?_)))))
  refine zq ?_
  refine zt ?_
  refine zb ?_
  refine zN ?_
  refine zc (zE (zm ?_))
  refine yk (fun h7=> ?_) (fun h7=> ?_)<;>(try simp only[wr]at h7)
  ·rw[if_pos h7]at hsc
   rw[if_neg (by omega)]at hsg
   refine zr ?_
   refine zb ?_
   refine zy ?_
   refine zQ ?_
   intro B4
   refine AO.g ?_
   refine z6 0 27 ?_
   refine xz 27 ?_
   refine AO.u ?_
   dsimp only[List.eraseIdx]
   refine zw 1 ?_
   intro V5 hV5
   refine zc (zE (y5 (y5 (zm (zr ?_)))))
   refine zA ?_
   refine zb (zE ?_)
   refine zH _ _ _ (by omega) (⟨k+1,_,V',by omega,‹_›,hV',rfl,rfl,by rw[hsc,hsg,a0E,cH]⟩)
  rw[if_neg (by omega)]at hsc
  refine zB (zr ?_)
  refine zq ?_
  refine zt ?_
  refine zb ?_
  refine yw ?_
  refine zc (zE (zm ?_))
  refine yk (fun h8=> ?_) (fun h8=> ?_)<;>(try simp only[wr]at h8)
  ·rw[if_pos h8]at hsg
   refine zr ?_
   refine zb ?_
   refine zy ?_
   refine zQ ?_
   intro B6
   refine AO.g ?_
   refine z6 0 36 ?_
   refine xz 36 ?_
   refine AO.u ?_
   dsimp only[List.eraseIdx]
   refine zw 2 ?_
   intro V7 hV7
   refine zc (zE (y5 (y5 (zm (zr ?_)))))
   refine zA ?_
   refine zb (zE ?_)
   refine zH _ _ _ (by omega) (⟨k+1,V,_,by omega,hV,‹_›,rfl,rfl,by rw[hsc,hsg,a0E,cH]⟩)
  rw[if_neg (by omega)]at hsg
  refine yI (y5 (y5 (zm (zr ?_))))
  refine zA ?_
  refine zb (zE ?_)
  refine zH _ _ _ (by omega) (⟨k+1,V,V',by omega,hV,hV',rfl,rfl,by rw[hsc,hsg]⟩)
 obtain rfl:k=m.opts.length:=by omega
 rw[List.take_length]at hl1 hl2⊢
 refine xx ?_
 refine xp ?_
 refine xu ?_
 refine y2 (zm (zB (zB (zr ?_))))
 refine zb ?_
 refine zR ?_
 refine zb (zE (zm (yT ?_)))
 refine zh [(1,_),(3,_),(6,_),(8,_),(39,_),(40,_)] (fun nn E H=> ∃(j:Nat) (V:Value),(j≤vs.length)∧(V.oneCell'=true)∧nn=vs.length-j∧E= [(7,.val V),(41,.val (.int .i64 (j:Int)))]∧H= [.row V 96 2 (ltO m.opts n++eqO n (vs.take j)).length (a0L (ltO m.opts n++eqO n (vs.take j))),.row V' 96 2 (gtO m.opts n).length (a0L (gtO m.opts n)),.blk B2 29 6 [.val (.int .i64 0),.val (.int .i64 0),.val (.int .i64 0),.val (.slice none 0 0),.val (.slice none 0 0),.val (.slice none 0 0)],.blk B1 29 6 [.val (.int .i64 m.ty),.val (.int .i64 m.code),.val (.int .i64 m.id),roB m.tok,roO m.opts,roB m.pay]]) _ (⟨0,_,by omega,hV,rfl,rfl,by rw[show ltO m.opts n++eqO n (vs.take 0)=ltO m.opts n by simp[eqO]]⟩) ?_
 rintro nn E H ⟨j,V,h8,hV,rfl,rfl,rfl⟩
 dsimp only[cA,cN]
 have hl3:(ltO m.opts n++eqO n (vs.take j)).length=(ltO m.opts n).length+j:=by rw[cH,f0H,List.length_take];omega
 refine zB (zr ?_)
 refine zN (zE (zm (zB ?_)))
 refine yk (fun h9=> ?_) (fun h9=> ?_)<;>(try simp only[wr]at h9)
 ·have hj:j<vs.length:=by omega
  have hsc:ltO m.opts n++eqO n (vs.take (j+1))=(ltO m.opts n++eqO n (vs.take j))++[⟨n,vat vs j⟩]:=by
   rw[a0i [] hj];simp[eqO]
  refine yI (zm (zB (yT (zB (zr ?_)))))
  refine z8 ?_
  refine wl (O.loadR rfl rfl (by exact e0o (by omega) (by omega))) ?_
  refine zc (zE (zm (zr ?_)))
  refine zb ?_
  refine zb ?_
  refine zb ?_
  refine zT ?_
  refine zQ ?_
  intro B8
  refine AO.g ?_
  refine z6 0 49 ?_
  refine xz 49 ?_
  refine AO.u ?_
  dsimp only[List.eraseIdx]
  refine zw 0 ?_
  intro V9 hV9
  refine zc (zE (y5 (zm (zr ?_))))
  refine zA ?_
  refine zb (zE ?_)
  refine zn _ _ _ (by omega) (⟨j+1,_,by omega,‹_›,rfl,rfl,by rw[hsc,a0E,cH]⟩)
 obtain rfl:j=vs.length:=by omega
 rw[List.take_length]at hl3⊢
 have hlen:(ltO m.opts n++eqO n vs).length+(gtO m.opts n).length=(d0p m.opts n vs).length:=by rw[d0p,List.length_append (bs:=gtO m.opts n)]
 have hcell:a0L (ltO m.opts n++eqO n vs)++a0L (gtO m.opts n)=a0L (d0p m.opts n vs):=by rw[d0p,j0L (ltO m.opts n++eqO n vs)]
 have hone:=j0K (gtO m.opts n)
 refine xx ?_
 refine xp ?_
 refine xu ?_
 refine y2 (zm (zB ?_))
 refine AW.regionS [[(0,false),(1,false),(2,false),(3,true)],[(4,false)],[(5,true)]] (by kernel_rfl) (by kernel_rfl) ?_
 refine AMS.go (by exact(d0B 0 rfl (d0B 0 rfl a0D))) ?_
 try dsimp only[List.eraseIdx]
 refine yL ?_
 refine xg ?_
 refine xg ?_
 refine AM.main _ rfl (fun w0 R0=> ?_)
 refine AO.append' (i:=0) rfl rfl rfl rfl (by rfl) (by rfl) rfl rfl rfl (by exact SrcA.row TyD.ax mM (by(simp;done))) (by assumption) (by(unfold maxLen;omega)) (by omega) (by(dsimp only[List.set,cA,cN,List.take,List.drop];done)) (fun _=>by(dsimp only[List.set];done)) ?_
 intro V10 hV10
 refine AO.g ?_
 refine yG 0 [55] ?_
 refine AO.u ?_
 dsimp only[List.map,List.eraseIdx,cA,cN]
 refine AM.ok ?_
 dsimp only[b0d]
 refine AM.nil ?_
 try dsimp only[cA,cN]
 refine AMS.go (by exact a0D) ?_
 try dsimp only[List.eraseIdx]
 refine wn rfl (O.call rfl Tryz.func161 rfl rfl rfl (l0b (m:=m) (os:=d0p m.opts n vs) hlen hcell h1 h2 (by omega) hat2)) ?_
 refine AM.nil ?_
 try dsimp only[cA,cN]
 refine AMS.go (by exact(by exact a0G 6 1 rfl rfl a0D)) ?_
 try dsimp only[List.eraseIdx]
 refine AM.main _ rfl (fun w0 R0=> ?_)
 refine za 0 (AM.okN ?_)
 dsimp only[b0d]
 refine AM.nil ?_
 try dsimp only[cA,cN]
 refine AMS.nil (zm (yR ?_))
 refine AQ.retCell rfl rfl (by repeat(exact List.Mem.head _)) (by(dsimp only[List.set,cA,cN,List.take,List.drop];rfl)) rfl nS (⟨rfl,rfl⟩)
structure Bd where
 ctx:List UInt8
 kid:List UInt8
 piv:Int
abbrev cBd (b:Bd):List AV:= [roB b.ctx,roB b.kid,.val (.int .i64 b.piv)]
abbrev i0P (b:Bd):AV:= .agg (cBd b)
def Bd.none:Bd:=⟨[],[],0⟩
abbrev c0a (n:Int):Prop:=0≤n∧n≤1099511627775
theorem q0o (n:Int):(decide (0≤n)&&decide (n≤1099511627775))=decide (c0a n):=by
 rw[Bool.eq_iff_iff];simp
theorem q0I (n:Int):(decide (n<0)||decide (1099511627775<n))=decide (¬c0a n):=by
 rw[Bool.eq_iff_iff];simp only[Bool.or_eq_true,cQ];omega
theorem g0U (n:Int):Sp Tryz.prog 58 [.val (.int .i64 n)] [] (Is (.val (.bool (decide (c0a n))))):=by
 have e:=q0o n
 refine yr Tryz.func58 _ Tryz.ntmps58 (fun w0 R0=> ?_)
 refine zB (zr ?_)
 refine zc (zE (zm (zB (zr ?_))))
 refine zb ?_
 refine xY ?_
 refine zb ?_
 refine yl ?_
 refine yW 6 ?_
 refine zO ?_
 refine zc (zE (zm (yR ?_)))
 refine AQ.ret1 rfl rfl nS (⟨congrArg (fun z=>AV.val (.bool z)) e,rfl⟩)
theorem m0R (n:Int):Sp Tryz.prog 64 [.val (.int .i64 n)] [] (Is (.val (.bool (decide (¬c0a n))))):=by
 have e:=q0I n
 refine yr Tryz.func64 _ Tryz.ntmps64 (fun w0 R0=> ?_)
 refine zB (zr ?_)
 refine zc (zE (zm (zB (zr ?_))))
 refine zb ?_
 refine zN ?_
 refine zb ?_
 refine yl ?_
 refine yb 6 ?_
 refine zF ?_
 refine zc (zE (zm (yR ?_)))
 refine AQ.ret1 rfl rfl nS (⟨congrArg (fun z=>AV.val (.bool z)) e,rfl⟩)
abbrev m0t (n:Int):Prop:=1≤n∧n≤31
theorem n0f (n:Int):Sp Tryz.prog 57 [.val (.int .i64 n)] [] (Is (.val (.bool (decide (m0t n))))):=by
 have e:(decide (1≤n)&&decide (n≤31))=decide (m0t n):=by rw[Bool.eq_iff_iff];simp
 refine yr Tryz.func57 _ Tryz.ntmps57 (fun w0 R0=> ?_)
 refine zB (zr ?_)
 refine zc (zE (zm (zB (zr ?_))))
 refine zb ?_
 refine xY ?_
 refine zb ?_
 refine yl ?_
 refine yW 6 ?_
 refine zO ?_
 refine zc (zE (zm (yR ?_)))
 refine AQ.ret1 rfl rfl nS (⟨congrArg (fun z=>AV.val (.bool z)) e,rfl⟩)
theorem c0Y (l:List UInt8)(hl:l.length≤1000000):Sp Tryz.prog 62 [roB l] [] (Is (roB l)):=by
 refine yr Tryz.func62 _ Tryz.ntmps62 (fun w0 R0=> ?_)
 refine zB (zr ?_)
 refine zc (zE (zm (zB (zr ?_))))
 refine zb ?_
 refine yf ?_
 intro V1 hV1
 refine zc (zE (zm (yR ?_)))
 refine AQ.g ?_
 refine z9 0 [2] ?_
 refine AQ.u ?_
 try dsimp only[List.map,List.eraseIdx,cA,cN]
 refine yd
def b0W (c:Cx)(b:Bd)(id:List UInt8)(piv:Int):List UInt8:=if piv= -1 then(a0V c.com b.kid b.piv).1 else(a0V c.com id piv).1
theorem i0H (c:Cx)(b:Bd)(id:List UInt8)(piv:Int)(hcl:c.com.length≤1000000):Sp Tryz.prog 131 [.val (.int .i64 piv),.rp (cX c) 0,.rp (cBd b) 0,.rp [roB id] 0] [] (Is (roB (b0W c b id piv))):=by
 refine yr Tryz.func131 _ Tryz.ntmps131 (fun w0 R0=> ?_)
 refine zB (zr ?_)
 refine zc (zE (zm (zB (zB (zr ?_)))))
 refine zb ?_
 refine yh (zE (zm ?_))
 refine yk (fun h=> ?_) (fun h=> ?_)<;>(try simp only[wr]at h)
 ·rw[show b0W c b id piv=(a0V c.com b.kid b.piv).1 from if_pos h]
  refine zB (zr ?_)
  refine wl (O.fieldAddrR rfl rfl) ?_
  refine wl (O.loadR rfl rfl (by rfl)) ?_
  refine wl (O.fieldAddrR rfl rfl) ?_
  refine wl (O.loadR rfl rfl (by rfl)) ?_
  refine wl (O.fieldAddrR rfl rfl) ?_
  refine wl (O.loadR rfl rfl (by rfl)) ?_
  refine wl (xl rfl Tryz.func59 rfl rfl rfl (f0w _ _ _ hcl)) ?_
  refine zb ?_
  refine zW ?_
  refine zW ?_
  refine zc ?_
  refine zc (zE (zm (zB (zr ?_))))
  refine zb ?_
  refine zc (zE (zm (yR (y0 ?_))))
  refine yd
 rw[show b0W c b id piv=(a0V c.com id piv).1 from if_neg h]
 refine yI (zm (zB (zr ?_)))
 refine wl (O.fieldAddrR rfl rfl) ?_
 refine wl (O.loadR rfl rfl (by rfl)) ?_
 refine wl (O.loadR rfl rfl (by rfl)) ?_
 refine zb ?_
 refine wl (xl rfl Tryz.func59 rfl rfl rfl (f0w _ _ _ hcl)) ?_
 refine zb ?_
 refine zW ?_
 refine zW ?_
 refine zc ?_
 refine zc (zE (zm (zB (zr ?_))))
 refine zb ?_
 refine zc (zE (zm (yR ?_)))
 refine yd
theorem k0m (c:Cx)(b:Bd)(id:List UInt8):Sp Tryz.prog 78 [h0Z c,i0P b,roB id] [] (Is (.fn (.func 131) [.rp (cX c) 0,.rp (cBd b) 0,.rp [roB id] 0])):=by
 refine yr Tryz.func78 _ Tryz.ntmps78 (fun w0 R0=> ?_)
 refine zB (zr ?_)
 refine ya ?_
 intro B1
 refine ya ?_
 intro B2
 refine ya ?_
 intro B3
 refine zc (zE (zm (zB (zr ?_))))
 refine AO.g ?_
 refine G.freezePtr 2 3 rfl rfl ?_
 refine AO.u ?_
 dsimp only[List.eraseIdx]
 refine AO.g ?_
 refine G.freezePtr 1 4 rfl rfl ?_
 refine AO.u ?_
 dsimp only[List.eraseIdx]
 refine AO.g ?_
 refine G.freezePtr 0 5 rfl rfl ?_
 refine AO.u ?_
 dsimp only[List.eraseIdx]
 refine wl (O.fn rfl rfl) ?_
 refine zc (zE (zm (yR ?_)))
 refine yd
def b0c (m:Msg):Cmp×Int:=match b0J m.opts 9 with
 | []=>(.zero,10)
 | [v]=>m0j v
 |_=>(.zero,7)
theorem j0w {m:Msg}(h:(b0J m.opts 9).length=0):b0c m=(.zero,10):=by
 unfold b0c;rw[List.eq_nil_of_length_eq_zero h]
theorem j0v {m:Msg}(h:(b0J m.opts 9).length=1):b0c m=m0j (vat (b0J m.opts 9) 0):=by
 unfold b0c
 generalize b0J m.opts 9=l at*
 match l,h with
 | [v],_=>rfl
theorem j0u {m:Msg}(h0:(b0J m.opts 9).length≠0)(h1:(b0J m.opts 9).length≠1):b0c m=(.zero,7):=by
 unfold b0c
 generalize b0J m.opts 9=l at*
 match l,h0,h1 with
 |x::y::l,_,_=>rfl
abbrev SmO (m:Msg):Prop:=m.opts.length≤1000000∧ ∀o∈m.opts,o.val.length≤140737488355328
theorem h0u (m:Msg)(h:SmO m):Sp Tryz.prog 22 [b0s m] [] (Is (o0w (b0c m))):=by
 refine yr Tryz.func22 _ Tryz.ntmps22 (fun w0 R0=> ?_)
 refine zB (zr ?_)
 refine ya ?_
 intro B1
 refine zd ?_
 intro B2
 refine zc (zE (zm (zB (zr ?_))))
 refine zD ?_
 refine wl (xl rfl Tryz.func71 rfl rfl rfl (p0v _ _ h.1 h.2)) ?_
 refine zc (zE (zm (zB (yT (zB (zr ?_))))))
 refine zb ?_
 refine zR ?_
 refine yh ?_
 refine zc (zE (zm ?_))
 refine yk (fun h0=> ?_) (fun h0=> ?_)<;>(try simp only[wr]at h0)
 ·rw[j0w (by omega)]
  refine zB (zr ?_)
  refine zT ?_
  refine za 0 ?_
  refine zc (zE (zm (yR ?_)))
  refine xN (y0 ?_)
  refine wg xd zo (⟨rfl,rfl⟩)
 refine zB (zr ?_)
 refine zb ?_
 refine zR ?_
 refine yw ?_
 refine zc (zE (zm ?_))
 refine yk (fun h1=> ?_) (fun h1=> ?_)<;>(try simp only[wr]at h1)
 ·rw[j0u (by omega) (by omega)]
  refine zB (zr ?_)
  refine zT ?_
  refine za 0 ?_
  refine zc (zE (zm (yR ?_)))
  refine xN (y0 ?_)
  refine wg xd zo (⟨rfl,rfl⟩)
 rw[j0v (by omega)]
 refine yI (y5 (zm (zB (zr ?_))))
 refine zb ?_
 refine z8 ?_
 refine wl (O.loadR rfl rfl (by exact e0o (k:=0) (by omega) rfl)) ?_
 refine wl (xl rfl Tryz.func72 rfl rfl rfl (g0M _)) ?_
 refine zW ?_
 refine zW ?_
 refine za 0 ?_
 refine zc (zE (zm (yR ?_)))
 refine AQ.retCT rfl rfl rfl (by repeat(exact List.Mem.head _)) (by rfl) rfl nS (⟨rfl,rfl⟩)
theorem k0v (os:List Opt)(n:Int)(k:Nat):(b0J (os.take k) n).length≤k:=Nat.le_trans (c0P _ _) (by rw[List.length_take];omega)
theorem h0C (m:Msg)(h:SmO m):Sp Tryz.prog 21 [b0s m] [] (Is (o0w (b0c m))):=by
 obtain⟨h3,hat⟩:=h
 refine yr Tryz.func21 _ Tryz.ntmps21 (fun w0 R0=> ?_)
 refine zB (zr ?_)
 refine ya ?_
 intro B1
 refine zd ?_
 intro B2
 refine zc (zE (zm (zB (zr ?_))))
 refine zc (zE (zm (zB (zB (zr ?_)))))
 refine zq ?_
 refine zv ?_
 refine zR ?_
 refine zb (zE (zm (yT ?_)))
 refine AW.g ?_
 refine G.nilRow 22 1 ?_
 refine AW.u ?_
 refine zh [(2,_),(8,_),(9,_)] (fun nn E H=> ∃(k:Nat) (V:Value),(k≤m.opts.length)∧(V.oneCell'=true)∧nn=m.opts.length-k∧E= [(4,.val V),(10,.val (.int .i64 (k:Int)))]∧H= [.row V 22 1 (b0J (m.opts.take k) 9).length (bsA (b0J (m.opts.take k) 9)),.blk B2 52 6 [.val (.int .i64 0),.val (.bool false),.val (.slice none 0 0),.val (.bool false),.val (.slice none 0 0),.val (.bool false)],.blk B1 29 6 [.val (.int .i64 m.ty),.val (.int .i64 m.code),.val (.int .i64 m.id),roB m.tok,roO m.opts,roB m.pay]]) _ (⟨0,_,by omega,rfl,rfl,rfl,rfl⟩) ?_
 rintro nn E H ⟨k,V,h4,hV,rfl,rfl,rfl⟩
 dsimp only[cA,cN]
 have hl:=k0v m.opts 9 k
 refine zB (zr ?_)
 refine zN (zE (zm (zB ?_)))
 refine yk (fun h5=> ?_) (fun h5=> ?_)<;>(try simp only[wr]at h5)
 ·have hk:k<m.opts.length:=by omega
  have hsc:=e0u (m.opts.take k) (oat m.opts k) 9
  rw[←a0i Opt.none hk]at hsc
  refine yI (zm (zB (yT (zB (zr ?_)))))
  refine z8 ?_
  refine yY ?_
  refine zd ?_
  intro B3
  refine za 0 (zE (zm (zB (zr ?_))))
  refine zq ?_
  refine zt ?_
  refine yh (zE (zm ?_))
  refine yk (fun h6=> ?_) (fun h6=> ?_)<;>(try simp only[wr]at h6)
  ·rw[if_pos h6]at hsc
   refine zr ?_
   refine zb ?_
   refine zq ?_
   refine zt ?_
   refine zQ ?_
   intro B4
   refine AO.g ?_
   refine z6 0 20 ?_
   refine xz 20 ?_
   refine AO.u ?_
   dsimp only[List.eraseIdx]
   refine zw 1 ?_
   intro V5 hV5
   refine zc (zE (y5 (zm (zr ?_))))
   refine zA ?_
   refine zb (zE ?_)
   refine zH _ _ _ (by omega) (⟨k+1,_,by omega,‹_›,rfl,rfl,by rw[hsc,d0N,cH]⟩)
  rw[if_neg h6]at hsc
  refine yI (y5 (zm (zr ?_)))
  refine zA ?_
  refine zb (zE ?_)
  refine zH _ _ _ (by omega) (⟨k+1,V,by omega,hV,rfl,rfl,by rw[hsc]⟩)
 obtain rfl:k=m.opts.length:=by omega
 rw[List.take_length]at*
 refine AW.g ?_
 refine z9 0 [4] ?_
 refine AW.u ?_
 try dsimp only[List.map,List.eraseIdx,cA,cN]
 refine xx ?_
 refine xp ?_
 refine xu ?_
 refine y2 (zm (zB (zB (zr ?_))))
 refine zb ?_
 refine zR (zE (zm (yT (zB (zr ?_)))))
 refine yh ?_
 refine zc (zE (zm ?_))
 refine yk (fun h0=> ?_) (fun h0=> ?_)<;>(try simp only[wr]at h0)
 ·rw[j0w (by omega)]
  refine zB (zr ?_)
  refine zT ?_
  refine za 0 ?_
  refine zc (zE (zm (yR ?_)))
  refine xN (y0 ?_)
  refine wg xd zo (⟨rfl,rfl⟩)
 refine zB (zr ?_)
 refine yh ?_
 refine zc (zE (zm ?_))
 refine yk (fun h1=> ?_) (fun h1=> ?_)<;>(try simp only[wr]at h1)
 ·rw[j0v (by omega)]
  refine zB (zr ?_)
  refine zb ?_
  refine z8 ?_
  refine wl (O.loadR rfl rfl (by exact e0o (k:=0) (by omega) rfl)) ?_
  refine wl (xl rfl Tryz.func70 rfl rfl rfl (i0L _)) ?_
  refine zW ?_
  refine zW ?_
  refine za 0 ?_
  refine zc (zE (zm (yR ?_)))
  refine xN (y0 ?_)
  refine AQ.retCT rfl rfl rfl (by repeat(exact List.Mem.head _)) (by rfl) rfl nS (⟨rfl,rfl⟩)
 rw[j0u (by omega) (by omega)]
 refine yI (y5 (zm (zB (zr ?_))))
 refine zT ?_
 refine za 0 ?_
 refine zc (zE (zm (yR ?_)))
 refine wg xd zo (⟨rfl,rfl⟩)
end Go.Proofs.YtojomcdjcpmnkaaGreat.By
namespace Go.Proofs.YtojomcdjcpmnkaaGreat.By
open Go.RowKit L A Dk
attribute [local irreducible] AW AQ AO
theorem retN {q:AV}{r:Int×Nat}{v:Int}{i:Nat}(h:r=(v,i))(hq:q= .tup [.val (.int .i64 v),.val (.int .i64 (i:Int))]):Is (.tup [.val (.int .i64 r.1),.val (.int .i64 (r.2:Int))]) q []:=by subst h;exact⟨hq,rfl⟩
end Go.Proofs.YtojomcdjcpmnkaaGreat.By
namespace Go.Proofs.YtojomcdjcpmnkaaGreat.By
open Go.RowKit L A
attribute [local irreducible] AW AQ AO
def pkM (m:Msg):Msg:=⟨0,m.code,0,[],m.opts,m.pay⟩
def b0i (m:Msg):List UInt8×Int:=
 if rq m.code=true∨rs m.code=true then(if(e0W (pkM m)).2=0 then(u8 m.code::(e0W (pkM m)).1.drop 4,0)else([],(e0W (pkM m)).2))else([],1)
abbrev q0Z (r:List UInt8×Int):AV:= .tup [roB r.1,.val (.int .i64 r.2)]
theorem q0d {r:List UInt8×Int}{a:List UInt8}{e:Int}(h:r=(a,e)):Is (q0Z r) (.tup [roB a,.val (.int .i64 e)]) []:=by rw[h];exact⟨rfl,rfl⟩
def unB (b:List UInt8):List UInt8:=64::bt b 0::0::0::b.drop 1
noncomputable def f0i (b:List UInt8):Msg×Int:=
 if b= []then(Msg.none,2)else if rq ((bt b 0).toNat:Int)=true∨rs ((bt b 0).toNat:Int)=true then s0j (unB b)else(Msg.none,4)
theorem k0U (m:Msg):4≤(raw m).length:=by simp only[raw,f0B,cH,cL,cE];omega
theorem g0m {m:Msg}(h:(e0W m).2=0):4≤(e0W m).1.length∧(e0W m).1.length≤4096:=by
 by_cases hv:ValM m
 ·rw[h0P hv];exact⟨k0U m,by have:=hv.2;simp only;omega⟩
 rw[h0Q hv]at h;cases h
theorem n0c (m:Msg):Sp Tryz.prog 115 [b0s m] [] (Is (q0Z (b0i m))):=by
 refine yr Tryz.func115 _ Tryz.ntmps115 (fun w0 R0=> ?_)
 refine zB (zr ?_)
 refine ya ?_
 intro B1
 refine zc ?_
 refine zc (zE (zm (zB (zB (zr ?_)))))
 refine zq ?_
 refine zt ?_
 refine wl (xl rfl Tryz.func152 rfl rfl rfl (f0m m.code)) ?_
 refine xf ?_
 refine zb ?_
 refine zJ ?_
 refine zl 11 ?_
 refine AO.opG rfl rfl rfl (fun hp=>wo 12 rfl (by exact hp) (xl rfl Tryz.func153 rfl rfl rfl (f0l m.code))) ?_
 refine y3 13 ?_
 refine zO (zE (zm ?_))
 refine yk (fun h=> ?_) (fun h=> ?_)<;>(try simp only[wr]at h)
 ·have e:b0i m=([],1):=if_neg (by rw[h.1,h.2];simp)
  refine zB (zr ?_)
  refine zc ?_
  refine zc (zE (zm (yR (y0 ?_))))
  refine wg yU yy (q0d e)
 have hc:rq m.code=true∨rs m.code=true:=by cases hq:rq m.code<;>simp_all
 refine yI (zm (zB (zr ?_)))
 refine zq ?_
 refine zt ?_
 refine zq ?_
 refine zt ?_
 refine zq ?_
 refine zt ?_
 refine zT ?_
 refine wl (xP rfl Tryz.func119 rfl rfl rfl (k0d (pkM m))) ?_
 refine zb ?_
 refine zW ?_
 refine zW ?_
 refine zc ?_
 refine zc (zE (zm (zB (zB (zr ?_)))))
 refine zb ?_
 refine yZ (zE (zm ?_))
 refine yk (fun h2=> ?_) (fun h2=> ?_)<;>(try simp only[wr]at h2)
 ·have e:b0i m=([],(e0W (pkM m)).2):=by rw[b0i,if_pos hc,if_neg h2]
  refine zB (zr ?_)
  refine zb ?_
  refine zc ?_
  refine zc (zE (zm (yR (y0 ?_))))
  refine wg yU yy (q0d e)
 have hl:=g0m h2
 have e:b0i m=(u8 m.code::(e0W (pkM m)).1.drop 4,0):=by rw[b0i,if_pos hc,if_pos h2]
 refine yI (zm (zB ?_))
 refine yv 6 ?_
 simp only[cT,cZ,cD,cO]
 refine yC ?_
 refine yD ?_
 refine wm (O.conv rfl rfl d0o) ?_
 refine FA.opN zZ rfl rfl rfl rfl ?_
 refine zG ?_
 refine wm (O.sliceFromB (k:=4) rfl rfl rfl (by rfl) (by omega)) ?_
 refine wh ?_
 simp only[a0l,cN,cA,cP]
 rintro _ _ ⟨B2,rfl,rfl⟩
 simp only[cA,cN]
 refine AO.g ?_
 refine G.closeRow (n:=1) (cap:=1) 0 rfl rfl rfl (Nat.le_refl _) (by(unfold maxLen;omega)) ?_
 refine AO.u ?_
 dsimp only[List.set]
 refine AO.append' (i:=0) rfl rfl rfl rfl (by rfl) (by rfl) rfl rfl rfl (by exact SrcA.ro TyD.ax (by(simp;done)) (lB rfl)) (by(simp[AV.cells,AV.one, *];done)) (by(unfold maxLen;simp only[List.length_take,List.length_drop,cH,cL,cE,List.length_set,Nat.zero_add];omega)) (by(simp only[List.length_take,List.length_drop,cH,cL,cE,List.length_set,Nat.zero_add];omega)) (by(dsimp only[List.set,cA,cN,List.take,List.drop];done)) (fun _=>by(dsimp only[List.set];done)) ?_
 intro V3 hV3
 refine zc ?_
 refine zc (zE (zm (yR ?_)))
 refine AQ.g ?_
 refine z9 0 [2] ?_
 refine AQ.u ?_
 try dsimp only[List.map,List.eraseIdx,cA,cN]
 refine AQ.g ?_
 refine G.re 2 (roB (u8 m.code::(e0W (pkM m)).1.drop 4)) (congrArg some (b0M (by rw[cL];omega) rfl)) ?_
 refine AQ.u ?_
 refine wg yU xk (q0d e)
abbrev pt (b:Nat):AV:= .val (.pointer (some ⟨b,0,none⟩))
abbrev stB (b:Nat)(f:Nat→UInt8):HE:= .blk b 185 16 (arB 16 f)
theorem j0e {b:Nat}{f g:Nat→UInt8}(h: ∀q,q<16→f q=g q): [stB b f]= [stB b g]:=congrArg (fun x=> [HE.blk b 185 16 x]) (a0e h)
theorem f0k {b:Nat}{f g:Nat→UInt8}(h: ∀q,q<16→f q=g q):stB b f=stB b g:=congrArg (fun x=>HE.blk b 185 16 x) (a0e h)
theorem g0G (b:Nat)(f k:Nat→UInt8):Sp Tryz.prog 206 [pt b,.agg (arB 16 k)] [stB b f] (IsM (.val (.tuple #[])) (stB b fun q=>f q^^^k q)):=by
 refine yr Tryz.func206 _ Tryz.ntmps206 (fun w0 R0=> ?_)
 refine zB (zr ?_)
 refine ya ?_
 intro B1
 refine zE (zm (zB (zr ?_)))
 refine zb (zE (zm (yT ?_)))
 refine zh [(0,_),(3,_)] (fun nn E H=> ∃(i:Nat),(i≤16)∧nn=16-i∧E= [(5,.val (.int .i64 (i:Int)))]∧H= [.blk B1 185 16 (arB 16 k),stB b (fun q=>if q<i then f q^^^k q else f q)]) _ (⟨0,by omega,rfl,rfl,rfl⟩) ?_
 rintro nn E H ⟨i,hi,rfl,rfl,rfl⟩
 dsimp only[cA,cN]
 refine zB (zr ?_)
 refine zN (zE (zm (zB ?_)))
 refine yk (fun h=> ?_) (fun h=> ?_)<;>(try simp only[wr]at h)
 ·refine yI (zm (zB (yT (zB (zr ?_)))))
  refine zb ?_
  refine zc (zE (zm ?_))
  refine yv 11 ?_
  simp only[cT,cZ,cD,cO]
  refine zG ?_
  refine zG ?_
  refine wm (O.nilCheck rfl rfl) ?_
  refine yo ?_
  refine wm (O.load rfl rfl mM (by exact a0u (k:=i) (by omega) (by omega))) ?_
  refine zG ?_
  refine yo ?_
  refine wm (O.load rfl rfl (by repeat(exact List.Mem.head _)) (by exact a0u (k:=i) (by omega) (by omega))) ?_
  refine wm (O.xor_ rfl rfl rfl c0l) ?_
  refine wm (O.nilCheck rfl rfl) ?_
  refine yo ?_
  refine wh ?_
  simp only[a0l,cN,cA,cP]
  refine yA 1 rfl rfl rfl rfl rfl rfl (by rfl) (by rfl) (by exact Nat.ble_eq_true_of_le (by rw[a0b];omega)) (by exact a0I (k:=i) (by omega) _ (by omega)) (zE (y5 (zm (zr ?_))))
  refine zA ?_
  refine zb (zE ?_)
  have e:stB b (fun q=>if q=i then(if i<i then f i^^^k i else f i)^^^k i else if q<i then f q^^^k q else f q)=stB b (fun q=>if q<i+1 then f q^^^k q else f q):=f0k fun q _=>by
   rcases Nat.lt_trichotomy q i with h1|rfl|h1
   ·rw[if_neg (by omega),if_pos h1,if_pos (by omega)]
   ·rw[if_pos rfl,if_neg (by omega),if_pos (by omega)]
   rw[if_neg (by omega),if_neg (by omega),if_neg (by omega)]
  refine zn _ _ _ (by omega) (⟨i+1,by omega,rfl,rfl,congrArg (fun x=> [HE.blk B1 185 16 (arB 16 k),x]) e⟩)
 obtain rfl:i=16:=by omega
 refine xx ?_
 refine xp ?_
 refine xu ?_
 refine y2 ?_
 have e: [stB b (fun q=>if q<16 then f q^^^k q else f q)]= [stB b (fun q=>f q^^^k q)]:=j0e fun q hq=>if_pos hq
 refine AQ.retN (AQ.ret0 rfl ⟨_,by repeat(first|exact List.Sublist.slnil|refine List.Sublist.cons_cons _ ?_|refine List.Sublist.cons _ ?_),List.Perm.refl _⟩ (⟨rfl,e⟩))
theorem o0i (v:UInt8):0≤(v.toNat:Int)∧(v.toNat:Int)<((256:Nat):Int):=by have:=v.toNat_lt;omega
def i0Q (xs:List AV)(o:Nat)(S:UInt8→UInt8):Prop:= ∀v:UInt8,xs[o+v.toNat]? =some (by8 (S v))
def shF (S:UInt8→UInt8)(d:Nat)(f:Nat→UInt8)(i:Nat):UInt8:=S (f (i%4+4*((i/4+d*(i%4))%4)))
theorem m0G {i:Nat}(hi:i<16)(f:Nat→UInt8):(arB 16 f)[0+((i:Int)%4+4*(((i:Int)/4+1*((i:Int)%4))%4)).toNat*1]? =some (by8 (f (i%4+4*((i/4+1*(i%4))%4)))):=
 a0u (by omega) (by
  have:((i:Int)%4+4*(((i:Int)/4+1*((i:Int)%4))%4))=((i%4+4*((i/4+1*(i%4))%4):Nat):Int):=by push_cast;rfl
  rw[this,Int.toNat_natCast];omega)
theorem e0p {xs:List AV}{o:Nat}{S:UInt8→UInt8}(h:i0Q xs o S)(v:UInt8):xs[o+(v.toNat:Int).toNat*1]? =some (by8 (S v)):=by rw[Int.toNat_natCast,Nat.mul_one];exact h v
theorem j0l (b:Nat)(f:Nat→UInt8)(xs:List AV)(o:Nat)(S:UInt8→UInt8)(hS:i0Q xs o S):Sp Tryz.prog 207 [pt b,.rp xs o,.val (.int .i64 1)] [stB b f] (IsM (.val (.tuple #[])) (stB b (shF S 1 f))):=by
 refine yr Tryz.func207 _ Tryz.ntmps207 (fun w0 R0=> ?_)
 refine zB (zr ?_)
 refine zb ?_
 refine wl (O.nilCheck rfl rfl) ?_
 refine zy ?_
 refine zd ?_
 intro B1
 refine AO.store (i:=0) rfl rfl rfl rfl rfl rfl (by rfl) (by rfl) (by rfl) (by exact b0l rfl) (by(dsimp only[List.set,cA,cN,List.take,List.drop];done)) (zE (zm (zB (zr ?_))))
 refine zb (zE (zm (yT ?_)))
 refine zh [(0,_),(1,_),(2,_),(6,_)] (fun nn E H=> ∃(i:Nat),(i≤16)∧nn=16-i∧E= [(13,.val (.int .i64 (i:Int)))]∧H= [.blk B1 185 16 (arB 16 f),stB b (fun q=>if q<i then shF S 1 f q else f q)]) _ (⟨0,by omega,rfl,rfl,rfl⟩) ?_
 rintro nn E H ⟨i,hi,rfl,rfl,rfl⟩
 dsimp only[cA,cN]
 refine zB (zr ?_)
 refine zN (zE (zm (zB ?_)))
 refine yk (fun h=> ?_) (fun h=> ?_)<;>(try simp only[wr]at h)
 ·have hi':i<16:=by omega
  refine yI (zm (zB (yT (zB (zr ?_)))))
  refine zb ?_
  refine zc (zE (zm (zB (zr ?_))))
  refine zb ?_
  refine wl wa ?_
  refine zb ?_
  refine xX ?_
  refine zc ?_
  refine zc (zE (zm ?_))
  refine yv 19 ?_
  simp only[cT,cZ,cD,cO]
  refine zG ?_
  refine zG ?_
  refine zG ?_
  refine zG ?_
  refine zG ?_
  refine zG ?_
  refine zG ?_
  refine xK ?_
  refine xL ?_
  refine wm wa ?_
  refine xK ?_
  refine xL ?_
  refine yX ?_
  refine wm (O.load rfl rfl (by repeat(exact List.Mem.head _)) (by exact m0G hi' f)) ?_
  refine wm (O.nilCheckR rfl rfl) ?_
  refine wm (O.idxLR rfl rfl rfl (by exact o0i _)) ?_
  refine wm (O.loadR rfl rfl (by exact e0p hS _)) ?_
  refine wm (O.nilCheck rfl rfl) ?_
  refine yX ?_
  refine wh ?_
  simp only[a0l,cN,cA,cP]
  refine yA 1 rfl rfl rfl rfl rfl rfl (by rfl) (by rfl) (by exact Nat.ble_eq_true_of_le (by rw[a0b];omega)) (by exact a0I (k:=i) (by omega) _ (by omega)) (zE (y5 (zm (zr ?_))))
  refine zA ?_
  refine zb (zE ?_)
  have e:stB b (fun q=>if q=i then shF S 1 f i else if q<i then shF S 1 f q else f q)=stB b (fun q=>if q<i+1 then shF S 1 f q else f q):=f0k fun q _=>by
   rcases Nat.lt_trichotomy q i with h1|rfl|h1
   ·rw[if_neg (by omega),if_pos h1,if_pos (by omega)]
   ·rw[if_pos rfl,if_pos (by omega)]
   rw[if_neg (by omega),if_neg (by omega),if_neg (by omega)]
  refine zn _ _ _ (by omega) (⟨i+1,by omega,rfl,rfl,congrArg (fun x=> [HE.blk B1 185 16 (arB 16 f),x]) e⟩)
 obtain rfl:i=16:=by omega
 refine xx ?_
 refine xp ?_
 refine xu ?_
 refine y2 ?_
 have e: [stB b (fun q=>if q<16 then shF S 1 f q else f q)]= [stB b (shF S 1 f)]:=j0e fun q hq=>if_pos hq
 refine AQ.retN (AQ.ret0 rfl ⟨_,by repeat(first|exact List.Sublist.slnil|refine List.Sublist.cons_cons _ ?_|refine List.Sublist.cons _ ?_),List.Perm.refl _⟩ (⟨rfl,e⟩))
def n0p (f m:Nat→UInt8)(i:Nat):Nat→UInt8
 |0=>0
 |k+1=>n0p f m i k^^^p0K (f (4*(i/4)+(i%4+k)%4)) (m k)
def f0T (f m:Nat→UInt8)(i:Nat):UInt8:=n0p f m i 4
theorem o0S {i k:Nat}(hi:i<16)(f:Nat→UInt8):(arB 16 f)[0+(4*((i:Int)/4)+((i:Int)%4+(k:Int))%4).toNat*1]? =some (by8 (f (4*(i/4)+(i%4+k)%4))):=
 a0u (by omega) (by
  have:(4*((i:Int)/4)+((i:Int)%4+(k:Int))%4)=((4*(i/4)+(i%4+k)%4:Nat):Int):=by push_cast;rfl
  rw[this,Int.toNat_natCast];omega)
def m0a (f m:Nat→UInt8)(i k q:Nat):UInt8:=if q=i then n0p f m i k else if q<i then f0T f m q else f q
theorem o0R (b:Nat)(f m:Nat→UInt8):Sp Tryz.prog 208 [pt b,.agg (arB 4 m)] [stB b f] (IsM (.val (.tuple #[])) (stB b (f0T f m))):=by
 refine yr Tryz.func208 _ Tryz.ntmps208 (fun w0 R0=> ?_)
 refine zB (zr ?_)
 refine ya ?_
 intro B1
 refine zE (zm (zB (zr ?_)))
 refine zb ?_
 refine wl (O.nilCheck rfl rfl) ?_
 refine zD ?_
 refine zd ?_
 intro B2
 refine AO.store (i:=0) rfl rfl rfl rfl rfl rfl (by rfl) (by rfl) (by rfl) (by exact b0l rfl) (by(dsimp only[List.set,cA,cN,List.take,List.drop];done)) (zE (zm (zB (zr ?_))))
 refine zb (zE (zm (yT ?_)))
 refine AW.loopK [(0,_),(3,_),(4,_)] (fun nn E H=> ∃(i:Nat),(i≤16)∧nn=16-i∧E= [(12,.val (.int .i64 (i:Int)))]∧H= [.blk B1 215 4 (arB 4 m),.blk B2 185 16 (arB 16 f),stB b (fun q=>if q<i then f0T f m q else f q)]) _ (⟨0,by omega,rfl,rfl,rfl⟩) (by repeat(first|exact a0f|refine a0h rfl ?_)) (by repeat(first|exact a0f|refine a0h rfl ?_)) (by repeat(first|exact a0p|refine a0m 0 rfl ?_|refine a0m 1 rfl ?_)) ?_
 rintro nn E H ⟨i,hi,rfl,rfl,rfl⟩
 dsimp only[cA,cN]
 refine zB (zr ?_)
 refine zN (zE (zm (zB ?_)))
 refine yk (fun h=> ?_) (fun h=> ?_)<;>(try simp only[wr]at h)
 ·have hi':i<16:=by omega
  refine yI (zm (zB (yT (zB (zr ?_)))))
  refine zb ?_
  refine zc (zE (zm (zB (zr ?_))))
  refine zb ?_
  refine wl wa ?_
  refine zb ?_
  refine xX ?_
  refine zc ?_
  refine zc (zE (zm (zB (zr ?_))))
  refine zb ?_
  refine zb ?_
  refine wl (O.nilCheck rfl rfl) ?_
  refine xW ?_
  refine yA 2 rfl rfl rfl rfl rfl rfl (by rfl) (by rfl) (by exact Nat.ble_eq_true_of_le (by rw[a0b];omega)) (by exact a0I (k:=i) (by omega) 0 (by omega)) (zE (zm (zB (zr ?_))))
  refine zb (zE (zm (yT ?_)))
  have e0:stB b (fun q=>if q=i then 0 else if q<i then f0T f m q else f q)=stB b (m0a f m i 0):=rfl
  refine zh [(0,_),(3,_),(4,_),(5,_),(6,_),(7,_),(12,_)] (fun nn E H=> ∃(k:Nat),(k≤4)∧nn=4-k∧E= [(23,.val (.int .i64 (k:Int)))]∧H= [.blk B1 215 4 (arB 4 m),.blk B2 185 16 (arB 16 f),stB b (m0a f m i k)]) _ (⟨0,by omega,rfl,rfl,rfl⟩) ?_
  rintro nn E H ⟨k,hk,rfl,rfl,rfl⟩
  dsimp only[cA,cN]
  refine zB (zr ?_)
  refine zN (zE (zm (zB ?_)))
  refine yk (fun h2=> ?_) (fun h2=> ?_)<;>(try simp only[wr]at h2)
  ·have hk':k<4:=by omega
   refine yI (zm (zB (yT (zB (zr ?_)))))
   refine zb ?_
   refine zc (zE (zm ?_))
   refine yv 21 ?_
   simp only[cT,cZ,cD,cO]
   refine zG ?_
   refine zG ?_
   refine wm (O.nilCheck rfl rfl) ?_
   refine yX ?_
   refine wm (O.load rfl rfl mM (by exact a0u (k:=i) (by omega) (by omega))) ?_
   refine zG ?_
   refine xK ?_
   refine zG ?_
   refine zG ?_
   refine xL ?_
   refine wm wa ?_
   refine xL ?_
   refine yX ?_
   refine wm (O.load rfl rfl mM (by exact o0S hi' f)) ?_
   refine zG ?_
   refine yX ?_
   refine wm (O.load rfl rfl (by repeat(exact List.Mem.head _)) (by exact a0u (k:=k) (by omega) (by omega))) ?_
   refine wm (xl rfl Tryz.func212 rfl rfl rfl (i0q _ _)) ?_
   refine wm (O.xor_ rfl rfl rfl c0l) ?_
   refine wm (O.nilCheck rfl rfl) ?_
   refine yX ?_
   refine wh ?_
   simp only[a0l,cN,cA,cP]
   refine yA 2 rfl rfl rfl rfl rfl rfl (by rfl) (by rfl) (by exact Nat.ble_eq_true_of_le (by rw[a0b];omega)) (by exact a0I (k:=i) (by omega) _ (by omega)) (zE (y5 (zm (zr ?_))))
   refine zA ?_
   refine zb (zE ?_)
   have e:stB b (fun q=>if q=i then m0a f m i k i^^^p0K (f (4*(i/4)+(i%4+k)%4)) (m k)else m0a f m i k q)=stB b (m0a f m i (k+1)):=f0k fun q _=>by
    unfold m0a
    by_cases h1:q=i
    ·rw[if_pos h1,if_pos h1,if_pos rfl];rfl
    rw[if_neg h1,if_neg h1,if_neg h1]
   refine zn _ _ _ (by omega) (⟨k+1,by omega,rfl,rfl,congrArg (fun x=> [HE.blk B1 215 4 (arB 4 m),HE.blk B2 185 16 (arB 16 f),x]) e⟩)
  obtain rfl:k=4:=by omega
  refine xx ?_
  refine xp ?_
  refine xu ?_
  refine y2 (y5 (zm (zr ?_)))
  refine zA ?_
  refine zb (zE ?_)
  have e:stB b (m0a f m i 4)=stB b (fun q=>if q<i+1 then f0T f m q else f q):=f0k fun q _=>by
   unfold m0a
   rcases Nat.lt_trichotomy q i with h1|rfl|h1
   ·rw[if_neg (by omega),if_pos h1,if_pos (by omega)]
   ·rw[if_pos rfl,if_pos (by omega)];rfl
   rw[if_neg (by omega),if_neg (by omega),if_neg (by omega)]
  refine zn _ _ _ (by omega) (⟨i+1,by omega,rfl,rfl,congrArg (fun x=> [HE.blk B1 215 4 (arB 4 m),HE.blk B2 185 16 (arB 16 f),x]) e⟩)
 obtain rfl:i=16:=by omega
 refine xx ?_
 refine xp ?_
 refine xu ?_
 refine y2 ?_
 have e: [stB b (fun q=>if q<16 then f0T f m q else f q)]= [stB b (f0T f m)]:=j0e fun q hq=>if_pos hq
 refine AQ.retN (AQ.ret0 rfl ⟨_,by repeat(first|exact List.Sublist.slnil|refine List.Sublist.cons_cons _ ?_|refine List.Sublist.cons _ ?_),List.Perm.refl _⟩ (⟨rfl,e⟩))
def PW:List UInt8:= [1,3,5,15,17,51,85,255,26,46,114,150,161,248,19,53,95,225,56,72,216,115,149,164,247,2,6,10,30,34,102,170,229,52,92,228,55,89,235,38,106,190,217,112,144,171,230,49,83,245,4,12,20,60,68,204,79,209,104,184,211,110,178,205,76,212,103,169,224,59,77,215,98,166,241,8,24,40,120,136,131,158,185,208,107,189,220,127,129,152,179,206,73,219,118,154,181,196,87,249,16,48,80,240,11,29,39,105,187,214,97,163,254,25,43,125,135,146,173,236,47,113,147,174,233,32,96,160,251,22,58,78,210,109,183,194,93,231,50,86,250,21,63,65,195,94,226,61,71,201,64,192,91,237,44,116,156,191,218,117,159,186,213,100,172,239,42,126,130,157,188,223,122,142,137,128,155,182,193,88,232,35,101,175,234,37,111,177,200,67,197,84,252,31,33,99,165,244,7,9,27,45,119,153,176,203,70,202,69,207,74,222,121,139,134,145,168,227,62,66,198,81,243,14,18,54,90,238,41,123,141,140,143,138,133,148,167,242,13,23,57,75,221,124,132,151,162,253,28,36,108,180,199,82,246,1]
def SB:List UInt8:= [99,124,119,123,242,107,111,197,48,1,103,43,254,215,171,118,202,130,201,125,250,89,71,240,173,212,162,175,156,164,114,192,183,253,147,38,54,63,247,204,52,165,229,241,113,216,49,21,4,199,35,195,24,150,5,154,7,18,128,226,235,39,178,117,9,131,44,26,27,110,90,160,82,59,214,179,41,227,47,132,83,209,0,237,32,252,177,91,106,203,190,57,74,76,88,207,208,239,170,251,67,77,51,133,69,249,2,127,80,60,159,168,81,163,64,143,146,157,56,245,188,182,218,33,16,255,243,210,205,12,19,236,95,151,68,23,196,167,126,61,100,93,25,115,96,129,79,220,34,42,144,136,70,238,184,20,222,94,11,219,224,50,58,10,73,6,36,92,194,211,172,98,145,149,228,121,231,200,55,109,141,213,78,169,108,86,244,234,101,122,174,8,186,120,37,46,28,166,180,198,232,221,116,31,75,189,139,138,112,62,181,102,72,3,246,14,97,53,87,185,134,193,29,158,225,248,152,17,105,217,142,148,155,30,135,233,206,85,40,223,140,161,137,13,191,230,66,104,65,153,45,15,176,84,187,22]
def IV:List UInt8:= [82,9,106,213,48,54,165,56,191,64,163,158,129,243,215,251,124,227,57,130,155,47,255,135,52,142,67,68,196,222,233,203,84,123,148,50,166,194,35,61,238,76,149,11,66,250,195,78,8,46,161,102,40,217,36,178,118,91,162,73,109,139,209,37,114,248,246,100,134,104,152,22,212,164,92,204,93,101,182,146,108,112,72,80,253,237,185,218,94,21,70,87,167,141,157,132,144,216,171,0,140,188,211,10,247,228,88,5,184,179,69,6,208,44,30,143,202,63,15,2,193,175,189,3,1,19,138,107,58,145,17,65,79,103,220,234,151,242,207,206,240,180,230,115,150,172,116,34,231,173,53,133,226,249,55,232,28,117,223,110,71,241,26,113,29,41,197,137,111,183,98,14,170,24,190,27,252,86,62,75,198,210,121,32,154,219,192,254,120,205,90,244,31,221,168,51,136,7,199,49,177,18,16,89,39,128,236,95,96,81,127,169,25,181,74,13,45,229,122,159,147,201,156,239,160,224,59,77,174,42,245,176,200,235,187,60,131,83,153,97,23,43,4,126,186,119,214,38,225,105,20,99,85,33,12,125]
def LG:List Nat:= [255,0,25,1,50,2,26,198,75,199,27,104,51,238,223,3,100,4,224,14,52,141,129,239,76,113,8,200,248,105,28,193,125,194,29,181,249,185,39,106,77,228,166,114,154,201,9,120,101,47,138,5,33,15,225,36,18,240,130,69,53,147,218,142,150,143,219,189,54,208,206,148,19,92,210,241,64,70,131,56,102,221,253,48,191,6,139,98,179,37,226,152,34,136,145,16,126,110,72,195,163,182,30,66,58,107,40,84,250,133,61,186,43,121,10,21,155,159,94,202,78,212,172,229,243,115,167,87,175,88,168,80,244,234,214,116,79,174,233,213,231,230,173,232,44,215,117,122,235,22,11,245,89,203,95,176,156,169,81,160,127,12,246,111,23,196,73,236,216,67,31,45,164,118,123,183,204,187,62,90,251,96,177,134,59,82,161,108,170,85,41,157,151,178,135,144,97,190,220,252,188,149,207,205,55,63,91,209,83,57,132,60,65,162,109,71,20,42,158,93,86,242,211,171,68,17,146,217,35,32,46,137,180,124,184,38,119,153,227,165,103,74,237,222,197,49,254,24,13,99,140,128,192,247,112,7]
def pw (i:Nat):UInt8:=PW.getD i 0
def sb (v:UInt8):UInt8:=SB.getD v.toNat 0
def iv (v:UInt8):UInt8:=IV.getD v.toNat 0
def lg (v:UInt8):Nat:=LG.getD v.toNat 0
def tA (i:Nat):UInt8:=if i<255 then pw i else 0
def tB (i:Nat):UInt8:=if i<255 then pw ((255-i)%255)else 0
def tC (i k:Nat):UInt8:=match k with
 |0=>tB i^^^99
 |k+1=>tC i k^^^p0J (tB i) (k+1)
theorem m0Z: ∀i,i<255→pw (i+1)=pw i^^^dbl (pw i):=by decide +kernel
theorem o0m: ∀i,i<256→lg (tA i)=i∧sb (tA i)=tC i 4∧iv (tC i 4)=tA i:=by decide +kernel
theorem o0l: ∀n,n<256→tA (lg (UInt8.ofNat n))=UInt8.ofNat n∧lg (UInt8.ofNat n)<256:=by decide +kernel
theorem q0t: ∀n,n<256→iv (sb (UInt8.ofNat n))=UInt8.ofNat n∧sb (iv (UInt8.ofNat n))=UInt8.ofNat n:=by decide +kernel
end Go.Proofs.YtojomcdjcpmnkaaGreat.By
