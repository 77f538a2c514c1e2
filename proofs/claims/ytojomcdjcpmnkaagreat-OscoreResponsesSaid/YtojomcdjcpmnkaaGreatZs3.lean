/-
  Texts laid together (part 3): what the statement's walk and plain law need. No condition.
-/
import Derived.Test.YtojomcdjcpmnkaaGreatZs2
set_option linter.unusedVariables false
set_option linter.unusedSimpArgs false
set_option maxRecDepth 20000
set_option maxHeartbeats 4000000
namespace Go.Proofs.YtojomcdjcpmnkaaGreat.By
open Go.RowKit L A Dk
attribute [local irreducible] AW AQ AO
theorem k0W (n:Int):Sp Tryz.prog 112 [.val (.int .i64 n)] [] (Is (roB (b0K n))):=by
 refine yN Tryz.func112 _ Tryz.ntmps112 (fun w0 R0=> ?_)
 refine zD (zr ?_)
 refine zc (zI (zo (zD (zD (zr ?_)))))
 refine zb ?_
 refine zP ?_
 refine zb ?_
 refine yt ?_
 refine yp 7 ?_
 refine zE (zI (zo ?_))
 refine yk (fun h=> ?_) (fun h=> ?_)<;>(try simp only[vX]at h)
 ·have e:b0K n= []:=by unfold b0K;rw[if_pos (by omega)]
  rw[e]
  refine zD (zr ?_)
  refine zc (zI (zo (xc (xr ?_))))
  refine AQ.g ?_
  refine G.nilRo 2 rfl ?_
  refine AQ.u ?_
  try dsimp only[List.map,List.eraseIdx,cA,cN]
  refine yE
 obtain⟨m,rfl⟩: ∃m:Nat,n=(m:Int):=⟨n.toNat,by omega⟩
 have e:b0K (m:Int)=l0W (m/256) [u8 (m:Int)]:=by unfold b0K;rw[if_neg (by omega)];simp
 rw[e]
 refine yX (zo (zD (zr ?_)))
 refine zb ?_
 refine xa ?_
 refine zQ ?_
 intro B
 refine zc (zI (zo (zD (zD (zr ?_)))))
 refine zb ?_
 refine vd ?_
 refine zc (zI (zo (xj ?_)))
 rw[show(m:Int)/256=((m/256:Nat):Int) by omega]
 refine AW.g ?_
 refine G.closeRow (n:=1) (cap:=1) 0 rfl rfl rfl (Nat.le_refl _) (by(unfold maxLen;omega)) ?_
 refine AW.u ?_
 dsimp only[List.set]
 refine AW.loopK [] (fun nn E H=> ∃(j:Nat) (q:Nat) (out:List UInt8) (V:Value),(j<256^q)∧(q≤4)∧(out.length+q≤5)∧(V.oneCell'=true)∧(l0W (m/256) [u8 (m:Int)]=l0W j out)∧j=nn∧E= [(0,.val (.int .i64 (j:Int))),(3,.val V)]∧H= [.row V 5 1 out.length (a0a out)]) _ (⟨m/256,4,[u8 (m:Int)],_,by omega,by omega,by simp,rfl,rfl,rfl,rfl,rfl⟩) (by repeat(exact a0j)) (by repeat(first|exact a0j|refine a0i rfl ?_)) (by repeat(first|exact a0A|refine a0v 0 rfl ?_)) ?_
 rintro nn E H ⟨j,q,out,V,h1,h2,h4,hV,hb,rfl,rfl,rfl⟩
 dsimp only[cA,cN]
 refine zD (zD (zr ?_))
 refine zb ?_
 refine yS (zI (zo ?_))
 refine yk (fun h=> ?_) (fun h=> ?_)<;>(try simp only[vX]at h)
 ·obtain⟨q,rfl⟩: ∃p,q=p+1:=⟨q-1,by cases q with|zero=>simp at h1;omega|succ q=>rfl⟩
  have hj:j≠0:=by omega
  rw[a0T hj]at hb
  refine yX (zo (zD (xj (zr ?_))))
  refine zb ?_
  refine xa ?_
  refine zQ ?_
  intro B
  refine AO.g ?_
  refine xN B 1 1 0 rfl rfl rfl (Nat.le_refl _) ?_
  refine AO.u ?_
  dsimp only[List.set]
  refine zb ?_
  refine AO.append' (i:=0) rfl rfl rfl rfl (by rfl) (by rfl) rfl rfl rfl (by exact SrcA.row TyD.ax mM (by(simp;done))) (by(simp[AV.cells,AV.one, *];done)) (by(unfold maxLen;omega)) (by omega) (by(dsimp only[List.set,List.append,cA,cN,a0d,a0n,AV.cells,List.map,List.map_cons,List.map_nil,List.take,List.drop,Nat.zero_add,Nat.add_zero,Nat.reduceAdd,Nat.reduceMul,Nat.zero_mul,Value.cells,List.toList_toArray,a0p,List.replicate,List.flatten,cP];done)) (fun _=>by(dsimp only[List.set];done)) ?_
  intro V hV
  refine zc (zI (xz (zo (zr ?_))))
  refine zb ?_
  refine vd ?_
  refine zc (zI ?_)
  rw[show(j:Int)/256=((j/256:Nat):Int) by omega]
  refine AQ.loopKN _ _ _ (Nat.div_lt_self (by omega) (by omega)) (⟨j/256,q,u8 (j:Int)::out,V,by rw[Nat.pow_succ]at h1;omega,by omega,by simp;omega,hV,hb,rfl,rfl,by simp only[cL,Nat.add_comm out.length 1];rfl⟩) (by repeat(exact a0j)) (by repeat(first|exact a0j|refine a0i rfl ?_)) (by repeat(first|exact a0A|refine a0v 0 rfl ?_))
 obtain rfl:j=0:=by omega
 rw[hb,a0V]
 refine wb ?_
 refine xY ?_
 refine x3 ?_
 refine xx (zo (zD (zr ?_)))
 refine zb ?_
 refine zc (zI (zo (xc ?_)))
 refine AQ.g ?_
 refine yf 0 [2] ?_
 refine AQ.u ?_
 try dsimp only[List.map,List.eraseIdx,cA,cN]
 refine yE
theorem i0g (n:Int):Sp Tryz.prog 74 [.val (.int .i64 n)] [] (Is (roB (b0K n))):=by
 refine yN Tryz.func74 _ Tryz.ntmps74 (fun w0 R0=> ?_)
 refine zD (zr ?_)
 refine zc (zI (zo (zD (zD (zr ?_)))))
 refine zb ?_
 refine zP ?_
 refine zb ?_
 refine yt ?_
 refine yp 9 ?_
 refine zE (zI (zo ?_))
 refine yk (fun h=> ?_) (fun h=> ?_)<;>(try simp only[vX]at h)
 ·have e:b0K n= []:=by unfold b0K;rw[if_pos (by omega)]
  rw[e]
  refine zD (zr ?_)
  refine zc (zI (zo (xc (xr ?_))))
  refine AQ.g ?_
  refine G.nilRo 2 rfl ?_
  refine AQ.u ?_
  try dsimp only[List.map,List.eraseIdx,cA,cN]
  refine yE
 obtain⟨m,rfl⟩: ∃m:Nat,n=(m:Int):=⟨n.toNat,by omega⟩
 refine yX (zo (zD (zr ?_)))
 refine zc (zI (zo (zD (zD (zr ?_)))))
 refine zc (zI (zo (xj ?_)))
 refine AW.g ?_
 refine G.nilRow 5 1 ?_
 refine AW.u ?_
 refine zh [(0,_)] (fun nn E H=> ∃(k:Nat) (V:Value),(k≤5)∧(V.oneCell'=true)∧nn=5-k∧E= [(3,.val V),(4,.val (.int .i64 (32-8*(k:Int))))]∧H= [.row V 5 1 (rGo (m:Int) k).length (a0a (rGo (m:Int) k))]) _ (⟨0,.slice none 0 0,by omega,rfl,rfl,rfl,rfl⟩) ?_
 rintro nn E H ⟨k,V,h1,hV,rfl,rfl,rfl⟩
 dsimp only[cA,cN]
 have hlen:=m0Y (m:Int) k
 refine zD (zD (zr ?_))
 refine zb ?_
 refine ww (zI (zo ?_))
 refine yk (fun h=> ?_) (fun h=> ?_)<;>(try simp only[vX]at h)
 ·have hk:k≤4:=by omega
  refine yX (zo (zD (xj (zD (zr ?_)))))
  refine zb ?_
  refine zb ?_
  refine vT (O.shr rfl rfl rfl (by omega) rfl) ?_
  refine xa ?_
  refine zc (zI (zo (zD (zr ?_))))
  refine zb ?_
  refine wn ?_
  refine yS ?_
  refine zb ?_
  refine yt ?_
  refine xS 24 ?_
  refine zE ?_
  refine zb ?_
  refine yt ?_
  refine y8 28 ?_
  refine zE (zI (zo ?_))
  have e1:Int.fdiv (m:Int) (2^min (Int.toNat (32-8*(k:Int))) IntKind.i64.bits)=(m:Int)/256^ (4-k):=by
   rcases(show k=0∨k=1∨k=2∨k=3∨k=4 by omega)with rfl|rfl|rfl|rfl|rfl<;>exact Int.fdiv_eq_ediv_of_nonneg _ (by decide)
  rw[e1]
  have e2:((u8 ((m:Int)/256^ (4-k))).toNat:Int)=0↔u8 ((m:Int)/256^ (4-k))=0:=by
   rw[show(0:Int)=((0:UInt8).toNat:Int)from rfl,u8_eq]
  refine yk (fun h2=> ?_) (fun h2=> ?_)<;>(try simp only[vX]at h2)
  ·have e:rGo (m:Int) (k+1)=rGo (m:Int) k++[u8 ((m:Int)/256^ (4-k))]:=by
    rw[rGo,m0X,if_pos]
    rcases h2 with(h2|h2)|h2
    ·exact .inl (by omega)
    ·exact .inr (.inl (fun e=>h2 (e2.2 e)))
    exact .inr (.inr (by omega))
   refine zr ?_
   refine zb ?_
   refine zb ?_
   refine zQ ?_
   intro B
   refine AO.g ?_
   refine yc 0 33 ?_
   refine wd 33 ?_
   refine AO.u ?_
   dsimp only[List.eraseIdx]
   refine yn 0 ?_
   intro V hV
   refine zc (zI (xz (zo (zr ?_))))
   refine zb ?_
   refine yK ?_
   refine zc (zI ?_)
   refine AQ.loopKN _ _ _ (by omega) (⟨k+1,V,by omega,hV,rfl,by rw[show 32-8*((k+1:Nat):Int)=32-8*(k:Int)-8 by omega],by rw[e,a0O,cH]<;>rfl⟩) (by repeat(first|exact a0j|refine a0i rfl ?_)) (by repeat(first|exact a0j|refine a0i rfl ?_)) (by repeat(first|exact a0A|refine a0v 0 rfl ?_))
  have e:rGo (m:Int) (k+1)=rGo (m:Int) k:=by
   obtain⟨⟨h3,h4⟩,h5⟩:=h2
   rw[rGo,m0X,if_neg]
   rintro(h6|h6|h6)
   ·omega
   ·exact h6 (e2.1 (by simpa using h4))
   omega
  refine yX (xz (zo (zr ?_)))
  refine zb ?_
  refine yK ?_
  refine zc (zI ?_)
  refine zq _ _ _ (by omega) (⟨k+1,V,by omega,hV,rfl,by rw[show 32-8*((k+1:Nat):Int)=32-8*(k:Int)-8 by omega],by rw[e]⟩)
 obtain rfl:k=5:=by omega
 rw[r0u (by omega) (by omega)]
 refine wb ?_
 refine xY ?_
 refine x3 ?_
 refine xx (zo (zD (zr ?_)))
 refine zb ?_
 refine zc (zI (zo (xc ?_)))
 refine AQ.g ?_
 refine yf 0 [2] ?_
 refine AQ.u ?_
 try dsimp only[List.map,List.eraseIdx,cA,cN]
 refine yE
end Go.Proofs.YtojomcdjcpmnkaaGreat.By
namespace Go.Proofs.YtojomcdjcpmnkaaGreat.By
open Go.RowKit L A
attribute [local irreducible] AW AQ AO
abbrev j0A (k n:Int)(b:List UInt8):List AV:= [.val (.int .i64 k),.val (.int .u64 n),roB b,.ro false 0 []]
theorem e0E (k n:Int)(b:List UInt8):(It.mk k n b []).cells=j0A k n b:=by rw[It.cells,d0U];rfl
theorem d0m (k n:Int)(b:List UInt8)(l:List It):(It.mk k n b l).cells= [.val (.int .i64 k),.val (.int .u64 n),roB b,.ro false l.length (d0U l)]:=by rw[It.cells]
theorem n0x (l:List It)(x:It):d0U (l++[x])=d0U l++x.cells:=by rw[h0E,h0E,i0C]
abbrev h0b (x:It):Prop:=Sp Tryz.prog 168 [.agg x.cells] [] (Is (.agg x.cells))
theorem k0U {k n:Int}{b:List UInt8}{l:List It}(hb:b.length≤100000)(hm:l.length≤1000)(hS: ∀q,q<l.length→h0b (o0t l q)):h0b (.mk k n b l):=by
 unfold h0b
 rw[d0m]
 refine yN Tryz.func168 _ Tryz.ntmps168 (fun w0 R0=> ?_)
 refine zD (zr ?_)
 refine ye ?_
 intro B1
 refine zd ?_
 intro B2
 refine zI (zo (zD ?_))
 refine yw 9 ?_
 simp only[cT,cZ,cD,cO]
 refine yr ?_
 refine zL ?_
 refine yr ?_
 refine zL ?_
 refine yr ?_
 refine zL ?_
 refine xZ ?_
 refine xQ ?_
 refine yV ?_
 refine wZ ?_
 simp only[a0f,cN,cA,cP]
 rintro _ _ ⟨B3,rfl,rfl⟩
 simp only[cA,cN]
 refine za 0 (zI (zo (zD (zr ?_))))
 refine zc (zI (zo (zD (zD (zr ?_)))))
 refine zt ?_
 refine zn ?_
 refine zW ?_
 refine zb (zI (zo (xj ?_)))
 refine AW.g ?_
 refine G.nilRow 147 4 ?_
 refine AW.u ?_
 refine zh [(2,_),(3,_),(16,_),(17,_)] (fun nn E H=> ∃(q:Nat) (V:Value),(q≤l.length)∧(V.oneCell'=true)∧nn=l.length-q∧E= [(4,.val V),(18,.val (.int .i64 (q:Int)))]∧H= [.row V 147 4 q (d0U (l.take q)),.blk B3 147 4 [.val (.int .i64 k),.val (.int .u64 n),roB b,.val (.slice none 0 0)],.blk B2 147 4 [.val (.int .i64 0),.val (.int .u64 0),.val (.slice none 0 0),.val (.slice none 0 0)],.blk B1 147 4 [.val (.int .i64 k),.val (.int .u64 n),roB b,.ro false l.length (d0U l)]]) _ (⟨0,_,by omega,rfl,rfl,rfl,by rw[cZ,d0U]⟩) ?_
 rintro nn E H ⟨q,V,hq,hV,rfl,rfl,rfl⟩
 dsimp only[cA,cN]
 have hil:(d0U (l.take q)).length=q*4:=by rw[p0u,List.length_take];omega
 refine zD (zr ?_)
 refine zP (zI (zo (zD ?_)))
 refine yk (fun hlt=> ?_) (fun hlt=> ?_)<;>(try simp only[vX]at hlt)
 ·have hql:q<l.length:=by omega
  obtain⟨kk,nn',bb,ll,hx⟩: ∃kk nn' bb ll,o0t l q= .mk kk nn' bb ll:=by cases h:o0t l q;exact⟨_,_,_,_,rfl⟩
  have hg:((d0U l).drop (Int.toNat (q:Int)*4)).take 4= [.val (.int .i64 kk),.val (.int .u64 nn'),roB bb,.ro false ll.length (d0U ll)]:=by
   rw[t0O hql (by omega),hx,It.cells]
  have hSk:=hS q hql
  rw[hx]at hSk
  unfold h0b at hSk
  rw[It.cells]at hSk
  have e1:=n0x (l.take q) (o0t l q)
  rw[←a0g itN hql,hx,It.cells]at e1
  refine yX (zo (zD (xj (zD (zr ?_)))))
  refine z8 ?_
  refine vT (O.loadRK rfl rfl (by exact hg) (by rfl)) ?_
  refine zd ?_
  intro B4
  refine za 0 (zI (zo (zr ?_)))
  refine zb ?_
  refine vf ?_
  refine vT (xH rfl Tryz.func168 rfl rfl rfl hSk) ?_
  refine zQ ?_
  intro B5
  refine AO.g ?_
  refine yc 0 25 ?_
  refine wd 25 ?_
  refine AO.u ?_
  dsimp only[List.eraseIdx]
  refine yi 1 ?_
  intro V6 hV6
  refine zc (zI (xz (zo (zr ?_))))
  refine zA ?_
  refine zb (zI ?_)
  rw[show d0U (l.take q)++_=_ from e1.symm]
  refine zJ _ _ _ (by omega) (⟨q+1,_,by omega,‹_›,rfl,rfl,rfl⟩)
 obtain rfl:q=l.length:=by omega
 rw[List.take_length]
 refine AW.g ?_
 refine yf 0 [4] ?_
 refine AW.u ?_
 try dsimp only[List.map,List.eraseIdx,cA,cN]
 refine wb ?_
 refine xY ?_
 refine x3 ?_
 refine xx (zo (zD (zr ?_)))
 refine zb ?_
 refine zt ?_
 refine za 0 (zI (zo (zD (zr ?_))))
 refine zB ?_
 refine za 1 (zI (zo (xc ?_)))
 refine AQ.retCell rfl rfl mM (by rfl) rfl nS (⟨rfl,rfl⟩)
def u0p:Nat→It→Prop
 |0,.mk _ _ b l=>b.length≤100000∧l= []
 |d+1,.mk _ _ b l=>b.length≤100000∧l.length≤1000∧ ∀y∈l,u0p d y
theorem i0K: ∀(d:Nat) (x:It),u0p d x→h0b x
 |0,.mk k n b l,h=>by
  obtain⟨h1,rfl⟩:=h
  exact k0U h1 (by simp) (fun q hq=>absurd hq (by simp))
 |d+1,.mk k n b l,h=>k0U h.1 h.2.1 fun q hq=>i0K d _ (h.2.2 _ (b0f itN hq))
theorem a0H {d:Nat}{k n:Int}{b:List UInt8}(h:b.length≤100000):u0p d (.mk k n b []):=by
 cases d with
 |zero=>exact⟨h,rfl⟩
 |succ d=>exact⟨h,by simp,fun y hy=>by cases hy⟩
theorem d0O (d:Nat)(l:List It)(hm:l.length≤1000)(hS: ∀y∈l,u0p d y):Sp Tryz.prog 123 [.ro false l.length (d0U l)] [] (Is (.agg (It.mk 4 0 [] l).cells)):=by
 have hcp:=i0K (d+1) (.mk 4 0 [] l) ⟨by simp,hm,hS⟩
 unfold h0b at hcp
 rw[d0m]at hcp⊢
 refine yN Tryz.func123 _ Tryz.ntmps123 (fun w0 R0=> ?_)
 refine zD (zr ?_)
 refine zd ?_
 intro B1
 refine zI (zo (zD (zr ?_)))
 refine zb ?_
 refine zN ?_
 refine vT (wg rfl Tryz.func168 rfl rfl rfl hcp) ?_
 refine za 0 (zI (zo (xc ?_)))
 refine AQ.retCell rfl rfl (by repeat(exact List.Mem.head _)) (by rfl) rfl nS (⟨rfl,rfl⟩)
theorem e0q (n:Int)(hn:0≤n∧n<1000):Sp Tryz.prog 124 [.val (.int .i64 n)] [] (Is (.agg (j0A 0 n []))):=by
 refine yN Tryz.func124 _ Tryz.ntmps124 (fun w0 R0=> ?_)
 refine zD (zr ?_)
 refine zd ?_
 intro B1
 refine zI (zo (zD (zD (zr ?_))))
 refine zb ?_
 refine vT (O.lss rfl rfl rfl (by exact e0d (by omega))) (zI (zo ?_))
 refine AW.condF rfl (yX (zo (zD (zr ?_))))
 refine zb ?_
 refine wa ?_
 refine zN ?_
 refine za 0 (zI (zo (xc ?_)))
 refine x8 wl wy (⟨rfl,rfl⟩)
theorem c0U (b:List UInt8)(hb:b.length≤100000):Sp Tryz.prog 125 [roB b] [] (Is (.agg (j0A 2 0 b))):=by
 refine yN Tryz.func125 _ Tryz.ntmps125 (fun w0 R0=> ?_)
 refine zD (zr ?_)
 refine zd ?_
 intro B1
 refine zI (zo (zD (zr ?_)))
 refine zb ?_
 refine vT xI ?_
 refine zN ?_
 refine za 0 (zI (zo (xc ?_)))
 refine x8 wl wy (⟨rfl,rfl⟩)
theorem k0m:Sp Tryz.prog 126 [.val (.string ⟨#[75,101,121]⟩)] [] (Is (.agg (j0A 3 0 n0w))):=by
 refine yN Tryz.func126 _ Tryz.ntmps126 (fun w0 R0=> ?_)
 refine zD (zr ?_)
 refine zd ?_
 intro B1
 refine zI (zo (zD (zr ?_)))
 refine zb ?_
 refine vT (O.toBytes rfl rfl rfl (by(unfold maxLen;simp;done))) ?_
 refine zN ?_
 refine za 0 (zI (zo (xc ?_)))
 refine x8 wl wy (⟨rfl,rfl⟩)
theorem o0F:Sp Tryz.prog 126 [.val (.string ⟨#[73,86]⟩)] [] (Is (.agg (j0A 3 0 ivT))):=by
 refine yN Tryz.func126 _ Tryz.ntmps126 (fun w0 R0=> ?_)
 refine zD (zr ?_)
 refine zd ?_
 intro B1
 refine zI (zo (zD (zr ?_)))
 refine zb ?_
 refine vT (O.toBytes rfl rfl rfl (by(unfold maxLen;simp;done))) ?_
 refine zN ?_
 refine za 0 (zI (zo (xc ?_)))
 refine x8 wl wy (⟨rfl,rfl⟩)
theorem o0G:Sp Tryz.prog 126 [.val (.string ⟨#[69,110,99,114,121,112,116,48]⟩)] [] (Is (.agg (j0A 3 0 h0S))):=by
 refine yN Tryz.func126 _ Tryz.ntmps126 (fun w0 R0=> ?_)
 refine zD (zr ?_)
 refine zd ?_
 intro B1
 refine zI (zo (zD (zr ?_)))
 refine zb ?_
 refine vT (O.toBytes rfl rfl rfl (by(unfold maxLen;simp;done))) ?_
 refine zN ?_
 refine za 0 (zI (zo (xc ?_)))
 refine x8 wl wy (⟨rfl,rfl⟩)
theorem b0g {m n:Nat}(h:n<24):l0G m n= [UInt8.ofNat (32*m+n)]:=if_pos h
theorem e0k (n:Nat):u8 (n:Int)=UInt8.ofNat n:=by
 unfold u8
 exact UInt8.toNat_inj.1 (by simp only[UInt8.toNat_ofNat'];omega)
theorem e0U {k:Int}{m:Nat}{b:List UInt8}(hk:k=(m:Int))(hm:m=2∨m=3)(h:b.length<24):(It.mk k 0 b []).enc=l0G m b.length++b:=by
 subst hk
 rw[d0k,b0g h,show hnI (m:Int) 0 b 0=(b.length:Int)from if_pos (by omega),show 32*(m:Int)+(b.length:Int)=((32*m+b.length:Nat):Int) by omega,e0k]
 rfl
theorem p0G {n:Nat}(h:n<24):(It.mk 0 (n:Int) [] []).enc=e0M n:=by
 rw[d0k,e0M,b0g h,show hnI 0 (n:Int) [] 0=(n:Int)from rfl,show 32*0+(n:Int)=((32*0+n:Nat):Int) by omega,e0k]
theorem n0L {l:List It}(h:l.length<24):(It.mk 4 0 [] l).enc=g0o (l.map It.enc):=by
 have e: ∀l:List It,c0b l=(l.map It.enc).flatten:=fun l=>by
  induction l with
  |nil=>rw[c0b];rfl
  |cons x l ih=>rw[c0b,ih];rfl
 rw[j0H,g0o,List.length_map,b0g h,e,show 32*4+(l.length:Int)=((32*4+l.length:Nat):Int) by omega,e0k]
 rfl
theorem p0F:(It.mk 7 22 [] []).enc= [0xf6]:=by rw[d0k];rfl
def e0T (id ctx:List UInt8)(has:Bool)(kind:List UInt8)(n:Nat):List It:= [.mk 2 0 id [],if has=true then .mk 2 0 ctx []else .mk 7 22 [] [],.mk 0 ((10:Nat):Int) [] [],.mk 3 0 kind [],.mk 0 (n:Int) [] []]
theorem p0v {id ctx:List UInt8}{has:Bool}{kind:List UInt8}{n:Nat}(h1:id.length<24)(h2:ctx.length<24)(h3:kind.length<24)(h4:n<24):(It.mk 4 0 [] (e0T id ctx has kind n)).enc=e0y id ctx has kind n:=by
 have e:(e0T id ctx has kind n).map It.enc= [c0o id,if has then c0o ctx else [0xf6],e0M 10,k0d kind,e0M n]:=by
  show [(It.mk 2 0 id []).enc,(if has=true then It.mk 2 0 ctx []else It.mk 7 22 [] []).enc,(It.mk 0 ((10:Nat):Int) [] []).enc,(It.mk 3 0 kind []).enc,(It.mk 0 (n:Int) [] []).enc]=_
  rw[e0U (k:=2) (m:=2) rfl (.inl rfl) h1,p0G (by omega),e0U (k:=3) (m:=3) rfl (.inr rfl) h3,p0G h4]
  cases has with
  |true=>rw[if_pos rfl,if_pos rfl,e0U (k:=2) (m:=2) rfl (.inl rfl) h2];rfl
  |false=>rw[if_neg (by simp),if_neg (by simp),p0F];rfl
 rw[n0L (by show 5<24;omega),e];rfl
theorem f0e {id ctx:List UInt8}{has:Bool}{kind:List UInt8}{n:Nat}(h1:id.length<24)(h2:ctx.length<24)(h3:kind.length<24)(h4:n<24):(e0y id ctx has kind n).length≤100:=by
 cases has<;>simp[e0y,g0o,c0o,e0M,k0d,b0g,h1,h2,h3,h4]<;>omega
theorem h0n (id ctx:List UInt8)(has:Bool)(s:ByteArray)(kind:List UInt8)(n:Nat)(h1:id.length<24)(h2:ctx.length<24)(h3:kind.length<24)(h4:n<24)(htx:Sp Tryz.prog 126 [.val (.string s)] [] (Is (.agg (j0A 3 0 kind)))):
  Sp Tryz.prog 106 [roB id,roB ctx,.val (.bool has),.val (.string s),.val (.int .i64 (n:Int))] [] (Is (roB (e0y id ctx has kind n))):=by
 have hen:=p0v (id:=id) (ctx:=ctx) (has:=has) (kind:=kind) (n:=n) h1 h2 h3 h4
 have hll:=f0e (id:=id) (ctx:=ctx) (has:=has) (kind:=kind) (n:=n) h1 h2 h3 h4
 cases has with
 | true=>
  have hli:=d0O 0 (e0T id ctx true kind n) (by show 5≤1000;omega) (by
   intro y hy
   simp only[e0T,if_true,List.mem_cons,List.not_mem_nil,or_false]at hy
   rcases hy with rfl|rfl|rfl|rfl|rfl
   ·exact a0H (by omega)
   ·exact a0H (by omega)
   ·exact a0H (by simp)
   ·exact a0H (by omega)
   exact a0H (by simp))
  have hra:=f0B 1 (.mk 4 0 [] (e0T id ctx true kind n)) (.inr ⟨rfl,rfl,rfl,by show 5<24;omega,by
   intro y hy
   simp only[e0T,if_true,List.mem_cons,List.not_mem_nil,or_false]at hy
   rcases hy with rfl|rfl|rfl|rfl|rfl
   ·exact⟨rfl,.inr ⟨.inl rfl,rfl,h1⟩⟩
   ·exact⟨rfl,.inr ⟨.inl rfl,rfl,h2⟩⟩
   ·exact⟨rfl,.inl ⟨.inl rfl,by omega,by omega,rfl⟩⟩
   ·exact⟨rfl,.inr ⟨.inr rfl,rfl,h3⟩⟩
   exact⟨rfl,.inl ⟨.inl rfl,by omega,by omega,rfl⟩⟩⟩) (by rw[hen];omega)
  unfold g0v at hra
  rw[hen]at hra
  rw[d0m]at hli hra
  simp only[e0T,if_true,d0U,e0E,cP,cA,cN,cL,cE,Nat.zero_add,Nat.reduceAdd]at hli hra
  refine yN Tryz.func106 _ Tryz.ntmps106 (fun w0 R0=> ?_)
  refine zD (zr ?_)
  refine zc (zI (zo (zD (zr ?_))))
  refine zN ?_
  refine zd ?_
  intro B1
  refine za 0 (zI (zo (zD (zD (zr ?_)))))
  refine zb (zI (zo ?_))
  refine AW.condT rfl (zr ?_)
  refine zb ?_
  refine vT (xH rfl Tryz.func125 rfl rfl rfl (c0U _ (by omega))) ?_
  refine za 0 (zI (zo (zD ?_)))
  refine yw 12 ?_
  simp only[cT,cZ,cD,cO]
  refine zG ?_
  refine vS (xH rfl Tryz.func125 rfl rfl rfl (c0U _ (by omega))) ?_
  refine vo ?_
  refine vS (xH rfl Tryz.func124 rfl rfl rfl (e0q _ ⟨by omega,by omega⟩)) ?_
  refine zG ?_
  refine vS (xH rfl Tryz.func126 rfl rfl rfl htx) ?_
  refine zG ?_
  refine vS (xH rfl Tryz.func124 rfl rfl rfl (e0q _ ⟨by omega,by omega⟩)) ?_
  refine vS vC ?_
  refine vS (xH rfl Tryz.func123 rfl rfl rfl hli) ?_
  refine vS (xH rfl Tryz.func122 rfl rfl rfl hra) ?_
  refine vB ?_
  refine wZ ?_
  simp only[a0f,cN,cA,cP]
  refine zI (zo (xc ?_))
  refine yE
 | false=>
  have hli:=d0O 0 (e0T id ctx false kind n) (by show 5≤1000;omega) (by
   intro y hy
   simp only[e0T,if_neg (show ¬(false=true) by simp),List.mem_cons,List.not_mem_nil,or_false]at hy
   rcases hy with rfl|rfl|rfl|rfl|rfl
   ·exact a0H (by omega)
   ·exact a0H (by simp)
   ·exact a0H (by simp)
   ·exact a0H (by omega)
   exact a0H (by simp))
  have hra:=f0B 1 (.mk 4 0 [] (e0T id ctx false kind n)) (.inr ⟨rfl,rfl,rfl,by show 5<24;omega,by
   intro y hy
   simp only[e0T,if_neg (show ¬(false=true) by simp),List.mem_cons,List.not_mem_nil,or_false]at hy
   rcases hy with rfl|rfl|rfl|rfl|rfl
   ·exact⟨rfl,.inr ⟨.inl rfl,rfl,h1⟩⟩
   ·exact⟨rfl,.inl ⟨.inr rfl,by omega,by omega,rfl⟩⟩
   ·exact⟨rfl,.inl ⟨.inl rfl,by omega,by omega,rfl⟩⟩
   ·exact⟨rfl,.inr ⟨.inr rfl,rfl,h3⟩⟩
   exact⟨rfl,.inl ⟨.inl rfl,by omega,by omega,rfl⟩⟩⟩) (by rw[hen];omega)
  unfold g0v at hra
  rw[hen]at hra
  rw[d0m]at hli hra
  simp only[e0T,if_neg (show ¬(false=true) by simp),d0U,e0E,cP,cA,cN,cL,cE,Nat.zero_add,Nat.reduceAdd]at hli hra
  refine yN Tryz.func106 _ Tryz.ntmps106 (fun w0 R0=> ?_)
  refine zD (zr ?_)
  refine zc (zI (zo (zD (zr ?_))))
  refine zN ?_
  refine zd ?_
  intro B1
  refine za 0 (zI (zo (zD (zD (zr ?_)))))
  refine zb (zI (zo ?_))
  refine AW.condF rfl (yX (zo (zD ?_)))
  refine yw 12 ?_
  simp only[cT,cZ,cD,cO]
  refine zG ?_
  refine vS (xH rfl Tryz.func125 rfl rfl rfl (c0U _ (by omega))) ?_
  refine vo ?_
  refine vS (xH rfl Tryz.func124 rfl rfl rfl (e0q _ ⟨by omega,by omega⟩)) ?_
  refine zG ?_
  refine vS (xH rfl Tryz.func126 rfl rfl rfl htx) ?_
  refine zG ?_
  refine vS (xH rfl Tryz.func124 rfl rfl rfl (e0q _ ⟨by omega,by omega⟩)) ?_
  refine vS vC ?_
  refine vS (O.callC rfl Tryz.func123 rfl rfl rfl hli (by(repeat(first|exact CoeL.nil|refine CoeL.cons Coe.rfl ?_|refine CoeL.cons Coe.nil ?_|refine CoeL.cons (Coe.ro ?_) ?_));done)) ?_
  refine vS (xH rfl Tryz.func122 rfl rfl rfl hra) ?_
  refine vB ?_
  refine wZ ?_
  simp only[a0f,cN,cA,cP]
  refine zI (zo (xc ?_))
  refine yE
def s0t (kid pb:List UInt8):List It:= [.mk 0 ((1:Nat):Int) [] [],.mk 4 0 [] [.mk 0 ((10:Nat):Int) [] []],.mk 2 0 kid [],.mk 2 0 pb [],.mk 2 0 [] []]
def i0W (kid pb:List UInt8):List UInt8:=g0o [e0M 1,g0o [e0M 10],c0o kid,c0o pb,c0o []]
theorem p0X {kid pb:List UInt8}(h1:kid.length<24)(h2:pb.length<24):(It.mk 4 0 [] (s0t kid pb)).enc=i0W kid pb:=by
 have e:(s0t kid pb).map It.enc= [e0M 1,g0o [e0M 10],c0o kid,c0o pb,c0o []]:=by
  show [(It.mk 0 ((1:Nat):Int) [] []).enc,(It.mk 4 0 [] [.mk 0 ((10:Nat):Int) [] []]).enc,(It.mk 2 0 kid []).enc,(It.mk 2 0 pb []).enc,(It.mk 2 0 [] []).enc]=_
  rw[e0U (k:=2) (m:=2) rfl (.inl rfl) h1,e0U (k:=2) (m:=2) rfl (.inl rfl) h2,e0U (k:=2) (m:=2) rfl (.inl rfl) (by simp),p0G (by omega),n0L (by simp),List.map_cons,List.map_nil,p0G (by omega)]
  rfl
 rw[n0L (by show 5<24;omega),e];rfl
theorem f0h {kid pb:List UInt8}(h1:kid.length≤7)(h2:pb.length≤5):(i0W kid pb).length<24:=by
 unfold i0W g0o c0o e0M
 rw[b0g (show kid.length<24 by omega),b0g (show pb.length<24 by omega)]
 simp[b0g];omega
def q0F (x:List UInt8):List It:= [.mk 3 0 h0S [],.mk 2 0 [] [],.mk 2 0 x []]
theorem p0W {kid pb:List UInt8}(h1:kid.length≤7)(h2:pb.length≤5):(It.mk 4 0 [] (q0F (i0W kid pb))).enc=s0u kid pb:=by
 have h3:=f0h h1 h2
 have e:(q0F (i0W kid pb)).map It.enc= [k0d h0S,c0o [],c0o (i0W kid pb)]:=by
  show [(It.mk 3 0 h0S []).enc,(It.mk 2 0 [] []).enc,(It.mk 2 0 (i0W kid pb) []).enc]=_
  rw[e0U (k:=3) (m:=3) (b:=h0S) rfl (.inr rfl) (by decide),e0U (k:=2) (m:=2) rfl (.inl rfl) (by simp),e0U (k:=2) (m:=2) rfl (.inl rfl) h3]
  rfl
 rw[n0L (by show 3<24;omega),e];rfl
def h0Q (kid:List UInt8)(piv:Int):List UInt8×Int:=if 7<kid.length then([],1)else if piv<0∨1099511627775<piv then([],8)else(s0u kid (b0K piv),0)
abbrev by8 (a:UInt8):AV:= .val (.int .u8 (a.toNat:Int))
theorem c0L {p:UInt8→Prop}(h: ∀n:Nat,n<256→p (UInt8.ofNat n))(a:UInt8):p a:=by
 have:=h a.toNat a.toNat_lt
 rwa [UInt8.ofNat_toNat]at this
def dbl (a:UInt8):UInt8:=if a&&&128=0 then a<<<1 else(a<<<1)^^^27
theorem s0h (a:UInt8):Go.bits .xor .u8 (IntKind.u8.wrap ((a.toNat:Int)*2)) 27=(((a<<<1)^^^27).toNat:Int):=c0L (p:=fun a=>Go.bits .xor .u8 (IntKind.u8.wrap ((a.toNat:Int)*2)) 27=(((a<<<1)^^^27).toNat:Int)) (by decide +kernel) a
theorem s0i (a:UInt8):IntKind.u8.wrap ((a.toNat:Int)*2)=((a<<<1).toNat:Int):=c0L (p:=fun a=>IntKind.u8.wrap ((a.toNat:Int)*2)=((a<<<1).toNat:Int)) (by decide +kernel) a
theorem v0k (a:UInt8):Go.bits .and .u8 (a.toNat:Int) 128=((a&&&128).toNat:Int):=c0L (p:=fun a=>Go.bits .and .u8 (a.toNat:Int) 128=((a&&&128).toNat:Int)) (by decide +kernel) a
theorem v0U (a:UInt8):Go.bits .and .u8 (a.toNat:Int) 1=((a&&&1).toNat:Int):=c0L (p:=fun a=>Go.bits .and .u8 (a.toNat:Int) 1=((a&&&1).toNat:Int)) (by decide +kernel) a
theorem k0f {a:UInt8}:(a.toNat:Int)=0↔a=0:=⟨fun h=>UInt8.toNat_inj.1 (by simpa using h),fun h=>by subst h;rfl⟩
theorem k0e {a:UInt8}:(a.toNat:Int)=1↔a=1:=⟨fun h=>UInt8.toNat_inj.1 (by simp;omega),fun h=>by subst h;rfl⟩
theorem k0S (a:UInt8):Sp Tryz.prog 195 [by8 a] [] (Is (by8 (dbl a))):=by
 refine yN Tryz.func195 _ Tryz.ntmps195 (fun w0 R0=> ?_)
 refine zD (zr ?_)
 refine zc (zI (zo (zD (zD (zr ?_)))))
 refine zb ?_
 refine vT (O.and_ rfl rfl rfl (v0k a)) ?_
 refine y1 (zI (zo ?_))
 refine yk (fun h=> ?_) (fun h=> ?_)<;>(try simp only[vX]at h)
 ·rw[k0f]at h
  refine zD (zr ?_)
  refine zb ?_
  refine vT (O.shlK 1 2 rfl rfl rfl rfl (by rfl) (by rfl)) ?_
  refine vT (O.xor_ rfl rfl rfl (s0h a)) ?_
  refine zc (zI (zo (xc (xr ?_))))
  refine vu rfl rfl nS (⟨by rw[dbl,if_neg h],rfl⟩)
 rw[k0f]at h
 refine yX (zo (zD (zr ?_)))
 refine zb ?_
 refine vT (O.shlK 1 2 rfl rfl rfl rfl (by rfl) (by rfl)) ?_
 refine zc (zI (zo (xc ?_)))
 refine vu rfl rfl nS (⟨by rw[dbl,if_pos h,s0i],rfl⟩)
def u0r (a:UInt8)(k:Nat):UInt8:=u8 (Go.bits .or .u8 (IntKind.u8.wrap ((a.toNat:Int)*2^min ((k:Int)%8).toNat IntKind.u8.bits)) (((a.toNat:Int)).fdiv (2^min (8-(k:Int)%8).toNat IntKind.u8.bits)))
theorem r0h (a:UInt8){k:Nat}(hk:k<8):Go.bits .or .u8 (IntKind.u8.wrap ((a.toNat:Int)*2^min ((k:Int)%8).toNat IntKind.u8.bits)) (((a.toNat:Int)).fdiv (2^min (8-(k:Int)%8).toNat IntKind.u8.bits))=((u0r a k).toNat:Int):=
 c0L (p:=fun a=> ∀k:Nat,k<8→Go.bits .or .u8 (IntKind.u8.wrap ((a.toNat:Int)*2^min ((k:Int)%8).toNat IntKind.u8.bits)) (((a.toNat:Int)).fdiv (2^min (8-(k:Int)%8).toNat IntKind.u8.bits))=((u0r a k).toNat:Int)) (by decide +kernel) a k hk
theorem r0i (a:UInt8)(k:Nat)(hk:k<8):Sp Tryz.prog 196 [by8 a,.val (.int .i64 (k:Int))] [] (Is (by8 (u0r a k))):=by
 refine yN Tryz.func196 _ Tryz.ntmps196 (fun w0 R0=> ?_)
 refine zD (zr ?_)
 refine zc (zI (zo (zD (zr ?_))))
 refine zb ?_
 refine wa ?_
 refine vT (O.and_ rfl rfl rfl (q0B 3 (by decide) (by decide) (m:=8) (by decide) (by omega))) ?_
 refine zc (zI (zo (zD (zr ?_))))
 refine zb ?_
 refine zb ?_
 refine vT (O.shl rfl rfl rfl (by omega) rfl) ?_
 refine zb ?_
 refine zb ?_
 refine vT (O.sub rfl rfl rfl (by exact o0v (by omega))) ?_
 refine vT (O.shr rfl rfl rfl (by omega) rfl) ?_
 refine vT (O.or_ rfl rfl rfl rfl) ?_
 refine zc (zI (zo (xc ?_)))
 refine vu rfl rfl nS (⟨by rw[r0h a hk],rfl⟩)
def i0k:Nat→UInt8→UInt8→UInt8→UInt8
 |0,_,_,p=>p
 |n+1,a,b,p=>i0k n (dbl a) (b>>>1) (if b&&&1=1 then p^^^a else p)
def l0t (a b:UInt8):UInt8:=i0k 8 a b 0
theorem g0J: ∀n a p,i0k n a 0 p=p
 |0,_,_=>rfl
 |n+1,a,p=>by
  show i0k n (dbl a) ((0:UInt8)>>>1) (if(0:UInt8)&&&1=1 then p^^^a else p)=p
  rw[show(0:UInt8)>>>1=0 from rfl,if_neg (by decide)]
  exact g0J n _ p
theorem v0A (b:UInt8):((b>>>1).toNat:Int)=(b.toNat:Int)/2:=c0L (p:=fun b=>((b>>>1).toNat:Int)=(b.toNat:Int)/2) (by decide +kernel) b
theorem l0s (a b:UInt8):Sp Tryz.prog 212 [by8 a,by8 b] [] (Is (by8 (l0t a b))):=by
 refine yN Tryz.func212 _ Tryz.ntmps212 (fun w0 R0=> ?_)
 refine zD (zr ?_)
 refine zc (zI (zo (zD (zr ?_))))
 refine zc (zI (zo (zD (xj ?_))))
 refine AW.loopK [] (fun nn E H=> ∃(x:UInt8) (y:UInt8) (p:UInt8) (m:Nat),(i0k m x y p=l0t a b)∧(y.toNat<2^m)∧nn=y.toNat∧E= [(0,by8 x),(1,by8 y),(5,by8 p)]∧H= []) _ (⟨a,b,0,8,rfl,b.toNat_lt,rfl,rfl,rfl⟩) (by repeat(exact a0j)) (by repeat(first|exact a0j|refine a0i rfl ?_)) (by repeat(exact a0A)) ?_
 rintro nn E H ⟨x,y,p,m,hp,hm,rfl,rfl,rfl⟩
 dsimp only[cA,cN]
 refine zD (zD (zr ?_))
 refine zb ?_
 refine y1 (zI (zo ?_))
 refine yk (fun h=> ?_) (fun h=> ?_)<;>(try simp only[vX]at h)
 ·rw[k0f]at h
  obtain⟨m,rfl⟩: ∃m',m=m'+1:=by
   cases m with
   |zero=>exact absurd (UInt8.toNat_inj.1 (by simpa using hm)) h
   |succ m=>exact⟨m,rfl⟩
  have hpos:0<y.toNat:=by
   rcases Nat.eq_zero_or_pos y.toNat with h0|h0
   ·exact absurd (UInt8.toNat_inj.1 h0) h
   exact h0
  have hsh:=v0A y
  have hm2:(y>>>1).toNat<2^m:=by rw[Nat.pow_succ]at hm;omega
  refine yX (zo (zD (xj (zD (zD (zr ?_))))))
  refine zb ?_
  refine vT (O.and_ rfl rfl rfl (v0U _)) ?_
  refine z9 (zI (zo ?_))
  refine yk (fun h1=> ?_) (fun h1=> ?_)<;>(try simp only[vX]at h1)
  ·rw[k0e]at h1
   refine zr ?_
   refine zb ?_
   refine zb ?_
   refine vF ?_
   refine zc (zI (zo (zr ?_)))
   refine zb ?_
   refine vT (xH rfl Tryz.func195 rfl rfl rfl (k0S _)) ?_
   refine zc (zI (xz (zo (zr ?_))))
   refine zb ?_
   refine vT (wz 1 2) ?_
   refine zc (zI ?_)
   rw[←hsh]
   refine wG _ _ _ (by omega) (⟨dbl x,y>>>1,p^^^x,m,by rw[←hp,i0k,if_pos h1],hm2,rfl,rfl,rfl⟩)
  rw[k0e]at h1
  refine yX (zo (zr ?_))
  refine zb ?_
  refine vT (xH rfl Tryz.func195 rfl rfl rfl (k0S _)) ?_
  refine zc (zI (xz (zo (zr ?_))))
  refine zb ?_
  refine vT (wz 1 2) ?_
  refine zc (zI ?_)
  rw[←hsh]
  refine wG _ _ _ (by omega) (⟨dbl x,y>>>1,p,m,by rw[←hp,i0k,if_neg h1],hm2,rfl,rfl,rfl⟩)
 rw[k0f]at h
 subst h
 rw[g0J]at hp
 subst hp
 refine wb ?_
 refine xY ?_
 refine x3 ?_
 refine xx (zo (zD (zr ?_)))
 refine zb ?_
 refine zc (zI (zo (xc ?_)))
 refine yE
def u0u:Nat→UInt8→UInt8→UInt8→UInt8
 |0,_,_,p=>p
 |n+1,a,b,p=>u0u n (dbl a) (b>>>1) (if b&&&1=1 then p^^^a else p)
theorem n0s: ∀n a b p,u0u n a b p=i0k n a b p
 |0,_,_,_=>rfl
 |n+1,a,b,p=>n0s n _ _ _
theorem u0q (a:UInt8):((a.toNat:Int)/128=1)↔ ¬a&&&128=0:=c0L (p:=fun a=>((a.toNat:Int)/128=1)↔ ¬a&&&128=0) (by decide +kernel) a
theorem t0W {a:UInt8}(h: ¬a&&&128=0):dbl a=(a<<<1)^^^27:=if_neg h
theorem t0X {a:UInt8}(h:a&&&128=0):dbl a=a<<<1:=if_pos h
theorem n0r (a b:UInt8):Sp Tryz.prog 209 [by8 a,by8 b] [] (Is (by8 (l0t a b))):=by
 refine yN Tryz.func209 _ Tryz.ntmps209 (fun w0 R0=> ?_)
 refine zD (zr ?_)
 refine zc (zI (zo (zD (zr ?_))))
 refine zc (zI (zo (zD (zD (zr ?_)))))
 refine zb (zI (zo (xj ?_)))
 refine AW.loopK [] (fun nn E H=> ∃(k:Nat) (x:UInt8) (y:UInt8) (p:UInt8),(k≤8)∧(u0u (8-k) x y p=l0t a b)∧nn=8-k∧E= [(0,by8 x),(1,by8 y),(5,by8 p),(7,.val (.int .i64 (k:Int)))]∧H= []) _ (⟨0,a,b,0,by omega,n0s 8 a b 0,rfl,rfl,rfl⟩) (by repeat(exact a0j)) (by repeat(first|exact a0j|refine a0i rfl ?_)) (by repeat(exact a0A)) ?_
 rintro nn E H ⟨k,x,y,p,hk,hp,rfl,rfl,rfl⟩
 dsimp only[cA,cN]
 refine zD (zr ?_)
 refine zP (zI (zo (zD ?_)))
 refine yk (fun h=> ?_) (fun h=> ?_)<;>(try simp only[vX]at h)
 ·obtain⟨m,hm⟩: ∃m,8-k=m+1:=⟨7-k,by omega⟩
  have hm':8-(k+1)=m:=by omega
  rw[hm,u0u]at hp
  have hsh:=v0A y
  refine yX (zo (zD (xj (zD (zD (zr ?_))))))
  refine zb ?_
  refine vT (O.and_ rfl rfl rfl (v0U _)) ?_
  refine z9 (zI (zo ?_))
  refine yk (fun h1=> ?_) (fun h1=> ?_)<;>(try simp only[vX]at h1)
  ·rw[k0e]at h1
   rw[if_pos h1]at hp
   refine zr ?_
   refine zb ?_
   refine zb ?_
   refine vF ?_
   refine zc (zI (zo (zD (zr ?_))))
   refine zb ?_
   refine vT (wz 7 128) ?_
   refine zc (zI (zo (zD (zr ?_))))
   refine zb ?_
   refine vT (O.shlK 1 2 rfl rfl rfl rfl (by rfl) (by rfl)) ?_
   refine zc (zI (zo (zD (zD (zr ?_)))))
   refine zb ?_
   refine z9 (zI (zo ?_))
   refine yk (fun h2=> ?_) (fun h2=> ?_)<;>(try simp only[vX]at h2)
   ·rw[u0q]at h2
    refine zr ?_
    refine zb ?_
    refine vT (O.xor_ rfl rfl rfl (s0h _)) ?_
    refine zc (zI (zo (zr ?_)))
    refine zb ?_
    refine vT (wz 1 2) ?_
    refine zc (zI (xz (zo (zr ?_))))
    refine zA ?_
    refine zb (zI ?_)
    rw[←hsh]
    rw[←t0W h2]
    refine wG _ _ _ (by omega) (⟨k+1,dbl x,y>>>1,p^^^x,by omega,by rw[hm'];exact hp,rfl,rfl,rfl⟩)
   rw[u0q,Decidable.not_not]at h2
   refine yX (zo (zr ?_))
   refine zb ?_
   refine vT (wz 1 2) ?_
   refine zc (zI (xz (zo (zr ?_))))
   refine zA ?_
   refine zb (zI ?_)
   rw[←hsh,s0i]
   rw[←t0X h2]
   refine wG _ _ _ (by omega) (⟨k+1,dbl x,y>>>1,p^^^x,by omega,by rw[hm'];exact hp,rfl,rfl,rfl⟩)
  rw[k0e]at h1
  rw[if_neg h1]at hp
  refine yX (zo (zD (zr ?_)))
  refine zb ?_
  refine vT (wz 7 128) ?_
  refine zc (zI (zo (zD (zr ?_))))
  refine zb ?_
  refine vT (O.shlK 1 2 rfl rfl rfl rfl (by rfl) (by rfl)) ?_
  refine zc (zI (zo (zD (zD (zr ?_)))))
  refine zb ?_
  refine z9 (zI (zo ?_))
  refine yk (fun h2=> ?_) (fun h2=> ?_)<;>(try simp only[vX]at h2)
  ·rw[u0q]at h2
   refine zr ?_
   refine zb ?_
   refine vT (O.xor_ rfl rfl rfl (s0h _)) ?_
   refine zc (zI (zo (zr ?_)))
   refine zb ?_
   refine vT (wz 1 2) ?_
   refine zc (zI (xz (zo (zr ?_))))
   refine zA ?_
   refine zb (zI ?_)
   rw[←hsh]
   rw[←t0W h2]
   refine wG _ _ _ (by omega) (⟨k+1,dbl x,y>>>1,p,by omega,by rw[hm'];exact hp,rfl,rfl,rfl⟩)
  rw[u0q,Decidable.not_not]at h2
  refine yX (zo (zr ?_))
  refine zb ?_
  refine vT (wz 1 2) ?_
  refine zc (zI (xz (zo (zr ?_))))
  refine zA ?_
  refine zb (zI ?_)
  rw[←hsh,s0i]
  rw[←t0X h2]
  refine wG _ _ _ (by omega) (⟨k+1,dbl x,y>>>1,p,by omega,by rw[hm'];exact hp,rfl,rfl,rfl⟩)
 obtain rfl:k=8:=by omega
 have hp:p=l0t a b:=hp
 subst hp
 refine wb ?_
 refine xY ?_
 refine x3 ?_
 refine xx (zo (zD (zr ?_)))
 refine zb ?_
 refine zc (zI (zo (xc ?_)))
 refine yE
def r0g (a:UInt8)(k:Nat):UInt8:=u8 (Go.bits .or .u8 (IntKind.u8.wrap ((a.toNat:Int)*2^min ((k:Int)).toNat IntKind.u8.bits)) (((a.toNat:Int)).fdiv (2^min (8-(k:Int)).toNat IntKind.u8.bits)))
theorem r0f (a:UInt8){k:Nat}(hk:k<8):Go.bits .or .u8 (IntKind.u8.wrap ((a.toNat:Int)*2^min ((k:Int)).toNat IntKind.u8.bits)) (((a.toNat:Int)).fdiv (2^min (8-(k:Int)).toNat IntKind.u8.bits))=((r0g a k).toNat:Int):=
 c0L (p:=fun a=> ∀k:Nat,k<8→Go.bits .or .u8 (IntKind.u8.wrap ((a.toNat:Int)*2^min ((k:Int)).toNat IntKind.u8.bits)) (((a.toNat:Int)).fdiv (2^min (8-(k:Int)).toNat IntKind.u8.bits))=((r0g a k).toNat:Int)) (by decide +kernel) a k hk
theorem k0s (a:UInt8)(k:Nat)(hk:k<8):Sp Tryz.prog 210 [by8 a,.val (.int .i64 (k:Int))] [] (Is (by8 (r0g a k))):=by
 refine yN Tryz.func210 _ Tryz.ntmps210 (fun w0 R0=> ?_)
 refine zD (zr ?_)
 refine zc (zI (zo (zD (zr ?_))))
 refine zb ?_
 refine zb ?_
 refine wa ?_
 refine vT (O.shl rfl rfl rfl (by omega) rfl) ?_
 refine zb ?_
 refine zb ?_
 refine yK ?_
 refine wa ?_
 refine vT (O.shr rfl rfl rfl (by omega) rfl) ?_
 refine vT (O.or_ rfl rfl rfl rfl) ?_
 refine zc (zI (zo (xc ?_)))
 refine vu rfl rfl nS (⟨by rw[r0f a hk],rfl⟩)
end Go.Proofs.YtojomcdjcpmnkaaGreat.By
namespace Go.Proofs.YtojomcdjcpmnkaaGreat.By
open Go.RowKit L A
def k256:List UInt32:= [0x428a2f98,0x71374491,0xb5c0fbcf,0xe9b5dba5,0x3956c25b,0x59f111f1,0x923f82a4,0xab1c5ed5,0xd807aa98,0x12835b01,0x243185be,0x550c7dc3,0x72be5d74,0x80deb1fe,0x9bdc06a7,0xc19bf174,0xe49b69c1,0xefbe4786,0x0fc19dc6,0x240ca1cc,0x2de92c6f,0x4a7484aa,0x5cb0a9dc,0x76f988da,0x983e5152,0xa831c66d,0xb00327c8,0xbf597fc7,0xc6e00bf3,0xd5a79147,0x06ca6351,0x14292967,0x27b70a85,0x2e1b2138,0x4d2c6dfc,0x53380d13,0x650a7354,0x766a0abb,0x81c2c92e,0x92722c85,0xa2bfe8a1,0xa81a664b,0xc24b8b70,0xc76c51a3,0xd192e819,0xd6990624,0xf40e3585,0x106aa070,0x19a4c116,0x1e376c08,0x2748774c,0x34b0bcb5,0x391c0cb3,0x4ed8aa4a,0x5b9cca4f,0x682e6ff3,0x748f82ee,0x78a5636f,0x84c87814,0x8cc70208,0x90befffa,0xa4506ceb,0xbef9a3f7,0xc67178f2]
structure H8 where
 a:UInt32
 b:UInt32
 c:UInt32
 d:UInt32
 e:UInt32
 f:UInt32
 g:UInt32
 h:UInt32
 deriving DecidableEq
def p0z:H8:=⟨0x6a09e667,0xbb67ae85,0x3c6ef372,0xa54ff53a,0x510e527f,0x9b05688c,0x1f83d9ab,0x5be0cd19⟩
def rr (x n:UInt32):UInt32:=(x>>>n)|||(x<<<(32-n))
def l0e (b:List UInt8)(t:Nat):UInt32:=((b.getD (4*t) 0).toUInt32<<<24)|||((b.getD (4*t+1) 0).toUInt32<<<16)|||((b.getD (4*t+2) 0).toUInt32<<<8)|||(b.getD (4*t+3) 0).toUInt32
def l0z (w:List UInt32)(t:Nat):UInt32:=
 let x:=w.getD (t-15) 0
 let y:=w.getD (t-2) 0
 (rr y 17^^^rr y 19^^^ (y>>>10))+w.getD (t-7) 0+(rr x 7^^^rr x 18^^^ (x>>>3))+w.getD (t-16) 0
def wTo (b:List UInt8):Nat→List UInt32
 |0=> []
 |t+1=>let w:=wTo b t;w++[if t<16 then l0e b t else l0z w t]
def rnd (k w:UInt32)(s:H8):H8:=
 let t1:=s.h+(rr s.e 6^^^rr s.e 11^^^rr s.e 25)+((s.e&&&s.f)^^^ (~~~s.e&&&s.g))+k+w
 let t2:=(rr s.a 2^^^rr s.a 13^^^rr s.a 22)+((s.a&&&s.b)^^^ (s.a&&&s.c)^^^ (s.b&&&s.c))
 ⟨t1+t2,s.a,s.b,s.c,s.d+t1,s.e,s.f,s.g⟩
def r0k (w:List UInt32)(s:H8):Nat→H8
 |0=>s
 |t+1=>rnd (k256.getD t 0) (w.getD t 0) (r0k w s t)
def v0p (x y:H8):H8:=⟨x.a+y.a,x.b+y.b,x.c+y.c,x.d+y.d,x.e+y.e,x.f+y.f,x.g+y.g,x.h+y.h⟩
def k0X (h:H8)(b:List UInt8):H8:=v0p h (r0k (wTo b 64) h 64)
def i0n (n:Nat):Nat:=(119-n%64)%64
def t0F (n:Nat):List UInt8:= [56,48,40,32,24,16,8,0].map fun s=>UInt8.ofNat (n*8/2^s)
def p0e (b:List UInt8):List UInt8:=b++[128]++List.replicate (i0n b.length) 0++t0F b.length
def d0a (p:List UInt8):Nat→H8
 |0=>p0z
 |k+1=>k0X (d0a p k) ((p.drop (64*k)).take 64)
def w4 (x:UInt32):List UInt8:= [(x>>>24).toUInt8,(x>>>16).toUInt8,(x>>>8).toUInt8,x.toUInt8]
def u0Z (h:H8):List UInt8:=w4 h.a++w4 h.b++w4 h.c++w4 h.d++w4 h.e++w4 h.f++w4 h.g++w4 h.h
def sha (b:List UInt8):List UInt8:=u0Z (d0a (p0e b) ((p0e b).length/64))
theorem h0i (b:List UInt8):(sha b).length=32:=rfl
theorem p0d (b:List UInt8):(p0e b).length%64=0:=by
 simp only[p0e,cH,List.length_replicate,List.length_singleton,show(t0F b.length).length=8 from rfl,i0n]
 omega
def r0Z (k:List UInt8):List UInt8:=let x:=if 64<k.length then sha k else k;x++List.replicate (64-x.length) 0
def i0X (k b:List UInt8):List UInt8:=sha ((r0Z k).map (· ^^^92)++sha ((r0Z k).map (· ^^^54)++b))
theorem p0x (k b:List UInt8):(i0X k b).length=32:=rfl
def j0G (prk info:List UInt8):Nat→List UInt8
 |0=> []
 |k+1=>i0X prk (j0G prk info k++info++[UInt8.ofNat (k+1)])
def c0s (prk info:List UInt8)(k:Nat):List UInt8:=(List.range k).flatMap fun i=>j0G prk info (i+1)
def d0C (prk info:List UInt8)(n:Nat):List UInt8:=(c0s prk info ((n+31)/32)).take n
def k0Q:List UInt8:= [1,2,3,4,5,6,7,8,9,10,11,12,13,14,15,16]
def q0t:List UInt8:= [0x9e,0x7c,0xa9,0x22,0x23,0x78,0x63,0x40]
def n0H:List UInt8:= [0xbf,0x4f,0x72,0xde,0x4e,0xed,0x44,0xa4,0x95,0x13,0x90,0xe7,0x12,0x78,0x49,0xde,0x97,0xd6,0x17,0xb1,0x94,0x0f,0x1a,0xb6,0xc1,0x82,0xb8,0xa1,0x47,0xdb,0x8d,0xc4]
theorem t0S:i0X q0t k0Q=n0H:=by decide +kernel
theorem t0T:d0C n0H [0x85,0x40,0xf6,0x0a,0x63,0x4b,0x65,0x79,0x10] 16= [0xf0,0x91,0x0e,0xd7,0x29,0x5e,0x6a,0xd4,0xb5,0x4f,0xc7,0x93,0x15,0x43,0x02,0xff]:=by decide +kernel
theorem s0e:d0C n0H [0x85,0x41,0x01,0xf6,0x0a,0x63,0x4b,0x65,0x79,0x10] 16= [0xff,0xb1,0x4e,0x09,0x3c,0x94,0xc9,0xca,0xc9,0x47,0x16,0x48,0xb4,0xf9,0x87,0x10]:=by decide +kernel
theorem v0h:d0C n0H [0x85,0x40,0xf6,0x0a,0x62,0x49,0x56,0x0d] 13= [0x46,0x22,0xd4,0xdd,0x6d,0x94,0x41,0x68,0xee,0xfb,0x54,0x98,0x7c]:=by decide +kernel
end Go.Proofs.YtojomcdjcpmnkaaGreat.By
namespace Go.Proofs.YtojomcdjcpmnkaaGreat.A
open Go.RowKit L
theorem d0e (x:Int):IntKind.u32.wrap x=x%4294967296:=by
 show(if false=true∧x% (2^32)≥2^ (32-1)then x% (2^32)-2^32 else x% (2^32))=_
 rw[if_neg (by simp)];rfl
theorem f0l (n:Int)(h0:0≤n)(h1:n<2^32):IntKind.u32.wrap n=n:=by rw[d0e];omega
theorem g0l {a b:UInt32}:IntKind.u32.wrap ((a.toNat:Int)+(b.toNat:Int))=((a+b).toNat:Int):=by
 rw[d0e,UInt32.toNat_add];omega
theorem s0M {a b:UInt32}:Go.bits .xor .u32 (a.toNat:Int) (b.toNat:Int)=((a^^^b).toNat:Int):=by
 have e:(BitVec.ofInt 32 (a.toNat:Int)^^^BitVec.ofInt 32 (b.toNat:Int)).toNat=(a^^^b).toNat:=by
  rw[BitVec.toNat_xor,BitVec.ofInt_natCast,BitVec.ofInt_natCast,BitVec.toNat_ofNat,BitVec.toNat_ofNat,Nat.mod_eq_of_lt a.toNat_lt,Nat.mod_eq_of_lt b.toNat_lt,UInt32.toNat_xor]
 show IntKind.u32.wrap ((BitVec.ofInt 32 (a.toNat:Int)^^^BitVec.ofInt 32 (b.toNat:Int)).toNat:Int)=_
 rw[e]
 have:=(a^^^b).toNat_lt
 exact f0l _ (by omega) (by omega)
theorem o0h {a b:UInt32}:Go.bits .and .u32 (a.toNat:Int) (b.toNat:Int)=((a&&&b).toNat:Int):=by
 have e:(BitVec.ofInt 32 (a.toNat:Int)&&&BitVec.ofInt 32 (b.toNat:Int)).toNat=(a&&&b).toNat:=by
  rw[BitVec.toNat_and,BitVec.ofInt_natCast,BitVec.ofInt_natCast,BitVec.toNat_ofNat,BitVec.toNat_ofNat,Nat.mod_eq_of_lt a.toNat_lt,Nat.mod_eq_of_lt b.toNat_lt,UInt32.toNat_and]
 show IntKind.u32.wrap ((BitVec.ofInt 32 (a.toNat:Int)&&&BitVec.ofInt 32 (b.toNat:Int)).toNat:Int)=_
 rw[e]
 have:=(a&&&b).toNat_lt
 exact f0l _ (by omega) (by omega)
theorem u0t {a b:UInt32}:Go.bits .or .u32 (a.toNat:Int) (b.toNat:Int)=((a|||b).toNat:Int):=by
 have e:(BitVec.ofInt 32 (a.toNat:Int)|||BitVec.ofInt 32 (b.toNat:Int)).toNat=(a|||b).toNat:=by
  rw[BitVec.toNat_or,BitVec.ofInt_natCast,BitVec.ofInt_natCast,BitVec.toNat_ofNat,BitVec.toNat_ofNat,Nat.mod_eq_of_lt a.toNat_lt,Nat.mod_eq_of_lt b.toNat_lt,UInt32.toNat_or]
 show IntKind.u32.wrap ((BitVec.ofInt 32 (a.toNat:Int)|||BitVec.ofInt 32 (b.toNat:Int)).toNat:Int)=_
 rw[e]
 have:=(a|||b).toNat_lt
 exact f0l _ (by omega) (by omega)
theorem u0K {a:UInt32}{n:Nat}(hn:n<32):((a.toNat:Int)).fdiv (2^ (min ((n:Int)).toNat IntKind.u32.bits))=((a>>>UInt32.ofNat n).toNat:Int):=by
 rw[Int.toNat_natCast,show IntKind.u32.bits=32 from rfl,Nat.min_eq_left (by omega),UInt32.toNat_shiftRight,UInt32.toNat_ofNat',Nat.shiftRight_eq_div_pow,
  show n%2^32%32=n by rw[Nat.mod_eq_of_lt (show n<2^32 by omega)];omega,Int.fdiv_eq_ediv_of_nonneg _ (Int.le_of_lt (Int.pow_pos (by decide)))]
 simp
theorem u0L {a:UInt32}{n:Nat}(hn:n<32):IntKind.u32.wrap ((a.toNat:Int)*2^ (min ((n:Int)).toNat IntKind.u32.bits))=((a<<<UInt32.ofNat n).toNat:Int):=by
 rw[Int.toNat_natCast,show IntKind.u32.bits=32 from rfl,Nat.min_eq_left (by omega),UInt32.toNat_shiftLeft,UInt32.toNat_ofNat',Nat.shiftLeft_eq,
  show n%2^32%32=n by rw[Nat.mod_eq_of_lt (show n<2^32 by omega)];omega,d0e]
 simp
theorem d0Z {b:UInt8}:IntKind.u32.wrap (b.toNat:Int)=(b.toUInt32.toNat:Int):=by
 have:=b.toNat_lt
 rw[d0e,UInt8.toNat_toUInt32];omega
theorem e0a {a:UInt32}:IntKind.u8.wrap (a.toNat:Int)=(a.toUInt8.toNat:Int):=by
 rw[c0Q,UInt32.toNat_toUInt8]
 simp only[u8,UInt8.toNat_ofNat']
 omega
section
variable {P:Program}{E:Env}{H:List HE}{N:Nat}{o:Oper}
theorem com32 {a:UInt32}:Go.bits .xor .u32 IntKind.u32.max (a.toNat:Int)=((~~~a).toNat:Int):=by
 have h:IntKind.u32.max=((4294967295:UInt32).toNat:Int):=by decide
 rw[h,s0M]
 congr 2
theorem O.com32 {T:Nat}{x:Operand}{a:UInt32}(ho:o.op= .unOp .xor T x)(hx:ev E x=some (.val (.int .u32 (a.toNat:Int)))):OpW P N o E H (Is (.val (.int .u32 ((~~~a).toNat:Int)))):= .of_run fun R a' W h1 h2 ha=>
 ⟨.int .u32 ((~~~a).toNat:Int),by
  have e:(Op.intBits .xor .u32 IntKind.u32.max (a.toNat:Int)).run P W= .ok (.int .u32 ((~~~a).toNat:Int)) W:=by
   rw[←A.com32];rfl
  simp[execOp,ho,(ha.ev hx).val_inv,Op.unary,show IntKind.u32.signed=false from rfl,e],.val _⟩
end
abbrev e32 (a:UInt32):Value:= .int .u32 (a.toNat:Int)
abbrev e64 (a:UInt64):Value:= .int .u64 (a.toNat:Int)
section
variable {α:Type}{e:α→Value}
def arK (e:α→Value)(n:Nat)(f:Nat→α):List AV:=(List.range n).map fun q=>AV.val (e (f q))
theorem j0U (n:Nat)(f:Nat→α):(arK e n f).length=n:=by simp[arK]
theorem o0f {n:Nat}{f:Nat→α}{k:Nat}(h:k<n){j:Nat}(hj:j=k):(arK e n f)[j]? =some (.val (e (f k))):=by subst hj;simp[arK,h]
theorem g0g {n:Nat}{f g:Nat→α}(h: ∀q,q<n→f q=g q):arK e n f=arK e n g:=List.map_congr_left fun q hq=>by rw[h q (List.mem_range.1 hq)]
theorem j0T {n:Nat}{f:Nat→α}{k:Nat}(h:k<n)(v:α){j:Nat}(hj:j=k):a0d (arK e n f) j [.val (e v)]=arK e n (fun q=>if q=k then v else f q):=by
 subst hj
 show(arK e n f).set j _=_
 apply List.ext_getElem?
 intro q
 rw[List.getElem?_set,arK,arK]
 by_cases hq:q<n
 ·by_cases e':j=q
  ·subst e';simp[h]
  ·simp[hq,e',show ¬q=j from fun e''=>e' e''.symm]
 ·by_cases e':j=q
  ·subst e';omega
  ·simp[hq,e']
end
end Go.Proofs.YtojomcdjcpmnkaaGreat.A
namespace Go.Proofs.YtojomcdjcpmnkaaGreat.By
open Go.RowKit L A
theorem m0e (b:List UInt8): ∀t,(wTo b t).length=t
 |0=>rfl
 |t+1=>by
  show(wTo b t++[_]).length=_
  rw[cH,m0e b t];rfl
theorem o0w (b:List UInt8)(t q:Nat):(wTo b (t+1)).getD q 0=if q=t then(if t<16 then l0e b t else l0z (wTo b t) t)else(wTo b t).getD q 0:=by
 show(wTo b t++[_]).getD q 0=_
 have hl:=m0e b t
 by_cases h:q=t
 ·subst h
  rw[if_pos rfl,List.getD_eq_getElem?_getD,List.getElem?_append_right (by omega),hl]
  simp
 rw[if_neg h]
 simp only[List.getD_eq_getElem?_getD]
 by_cases h2:q<t
 ·rw[List.getElem?_append_left (by omega)]
 rw[List.getElem?_append_right (by omega),hl]
 have h3:1≤q-t:=by omega
 rw[List.getElem?_eq_none (by simpa using h3),List.getElem?_eq_none (by omega)]
def o0r (b:List UInt8)(t:Nat):List AV:=arK e32 64 fun q=>(wTo b t).getD q 0
theorem k0a (b:List UInt8){t:Nat}(ht:t<64){v:UInt32}(hv:v=if t<16 then l0e b t else l0z (wTo b t) t){j:Nat}(hj:j=t):a0d (o0r b t) j [.val (e32 v)]=o0r b (t+1):=by
 unfold o0r
 rw[j0T ht v hj]
 exact g0g fun q _=>by rw[o0w,hv]
theorem d0G (b:List UInt8)(t:Nat){k:Nat}(hk:k<64){j:Nat}(hj:j=k):(o0r b t)[j]? =some (.val (e32 ((wTo b t).getD k 0))):=o0f hk hj
abbrev c8 (s:H8):List AV:= [.val (e32 s.a),.val (e32 s.b),.val (e32 s.c),.val (e32 s.d),.val (e32 s.e),.val (e32 s.f),.val (e32 s.g),.val (e32 s.h)]
theorem m0D (w:List UInt32)(s:H8)(t:Nat):r0k w s (t+1)=rnd (k256.getD t 0) (w.getD t 0) (r0k w s t):=rfl
theorem p0c (n:Nat):(n+1+i0n n)%64=56:=by unfold i0n;omega
theorem j0w {n k:Nat}(h:k<i0n n):(n+1+k)%64≠56:=by unfold i0n at h;omega
theorem n0d (n:Nat):i0n n<64:=by unfold i0n;omega
theorem r0y {n k:Nat}(hk:k≤i0n n)(h:(n+1+k)%64=56):k=i0n n:=by
 by_cases g:k<i0n n
 ·exact absurd h (j0w g)
 omega
def l0C (n k:Nat):List UInt8:=(t0F n).take k
theorem n0v (n:Nat):l0C n 8=t0F n:=rfl
theorem l0B (n:Nat){k:Nat}(hk:k<8):l0C n (k+1)=l0C n k++[UInt8.ofNat (n*8/2^ (8*(7-k)))]:=by
 match k,hk with
 |0,_|1,_|2,_|3,_|4,_|5,_|6,_|7,_=>rfl
theorem s0Z (b:List UInt8){p:List UInt8}{k:Nat}(hp:p=p0e b)(hk:64*k=p.length):u0Z (d0a p k)=sha b:=by
 subst hp
 unfold sha
 rw[←hk,Nat.mul_div_cancel_left _ (by omega)]
theorem p0t (k:List UInt8):(r0Z k).length=64:=by
 unfold r0Z
 by_cases h:64<k.length
 ·simp only[if_pos h,cH,List.length_replicate,h0i]
 simp only[if_neg h,cH,List.length_replicate];omega
theorem h0H (prk info:List UInt8)(k:Nat):(j0G prk info (k+1)).length=32:=rfl
theorem f0S (prk info:List UInt8)(k:Nat):c0s prk info (k+1)=c0s prk info k++j0G prk info (k+1):=by
 unfold c0s
 rw[List.range_succ,List.flatMap_append]
 simp
theorem e0C (prk info:List UInt8): ∀k,(c0s prk info k).length=32*k
 |0=>rfl
 |k+1=>by rw[f0S,cH,e0C prk info k,h0H];omega
theorem e0B {prk info:List UInt8}{n:Nat}:(d0C prk info n).length=n:=by
 unfold d0C
 rw[List.length_take,e0C]
 omega
end Go.Proofs.YtojomcdjcpmnkaaGreat.By
namespace Go.Proofs.YtojomcdjcpmnkaaGreat.A
open Go.RowKit L
section
variable {Γ:Cx}{P:Program}{Q:Exit→Act→World→Prop}{E:Env}{H:List HE}{N:Nat}{o:Oper}{ops:Array Oper}{rest:List Oper}
theorem O.sliceLHm {m:Nat}{T:Nat}{x y y':Operand}{full:Bool}{n:Nat}{l h:Nat}{kk kk':IntKind}{z z':Int}{xs ys:List AV}{U sz bs:Nat}{zz:Value}[hs:TyS P T U sz bs zz](ho:o.op= .slice T x (some y) (some y') none)(hx:ev E x=some (.ro full n xs))(hy:ev E y=some (.val (.int kk z)))(hy':ev E y'=some (.val (.int kk' z')))
  (hz:z=(l:Int)) (hz':z'=(h:Int)) (hlh:l≤h) (hhn:h≤n) (hm:h-l=m) (hys:(xs.drop (l*sz)).take (m*sz)=ys):OpW P N o E H (Is (.ro false m ys)):=by
 subst hm
 exact O.sliceLH ho hx hy hy' hz hz' hlh hhn hys
end
theorem j0V {n m:Nat}{f g:Nat→UInt8}:arB n f++arB m g=arB (n+m) (fun q=>if q<n then f q else g (q-n)):=by
 apply List.ext_getElem?
 intro q
 rw[List.getElem?_append,a0b]
 by_cases h:q<n
 ·rw[if_pos h,a0o h rfl,a0o (k:=q) (by omega) rfl,if_pos h]
 ·rw[if_neg h]
  by_cases h2:q<n+m
  ·rw[a0o (k:=q-n) (by omega) rfl,a0o (k:=q) h2 rfl,if_neg h]
  ·rw[List.getElem?_eq_none (by rw[a0b];omega),List.getElem?_eq_none (by rw[a0b];omega)]
end Go.Proofs.YtojomcdjcpmnkaaGreat.A
namespace Go.Proofs.YtojomcdjcpmnkaaGreat.By
open Go.RowKit L A
attribute [local irreducible] AW AQ AO
theorem k0j {a:UInt32}{n:Nat}{z:Int}(hz:z=(n:Int))(hn:n<32):IntKind.u32.wrap ((a.toNat:Int)*2^ (min z.toNat IntKind.u32.bits))=((a<<<UInt32.ofNat n).toNat:Int):=by
 subst hz;exact u0L hn
theorem g0A {a:UInt32}{n:Nat}{z:Int}(hz:z=(n:Int))(hn:n<32):((a.toNat:Int)).fdiv (2^ (min z.toNat IntKind.u32.bits))=((a>>>UInt32.ofNat n).toNat:Int):=by
 subst hz;exact u0K hn
theorem o0L (x:UInt32)(n:Nat)(hn:0<n∧n<32):Sp Tryz.prog 211 [.val (e32 x),.val (.int .i64 (0-(n:Int)))] [] (Is (.val (e32 (rr x (UInt32.ofNat n))))):=by
 have hw:IntKind.u64.wrap (0-(n:Int))=18446744073709551616-(n:Int):=by rw[IntKind.wrap_u64];omega
 have hr:(x<<<UInt32.ofNat (32-n))|||(x>>>UInt32.ofNat n)=rr x (UInt32.ofNat n):=by
  unfold rr
  rw[UInt32.or_comm,show(32:UInt32)-UInt32.ofNat n=UInt32.ofNat (32-n) by rw[UInt32.ofNat_sub (by omega)];rfl]
 refine yN Tryz.func211 _ Tryz.ntmps211 (fun w0 R0=> ?_)
 refine zD (zr ?_)
 refine zc (zI (zo (zD (zr ?_))))
 refine zb ?_
 refine vT (O.conv rfl rfl (by rfl)) ?_
 refine vT (O.and_ rfl rfl rfl (q0B 5 (by decide) (by decide) (m:=32) (by decide) (by omega))) ?_
 refine zc (zI (zo (zD (zr ?_))))
 refine zb ?_
 refine zb ?_
 refine vT (O.shl rfl rfl rfl (by omega) (k0j (n:=32-n) (by omega) (by omega))) ?_
 refine zb ?_
 refine zb ?_
 refine vT (O.sub rfl rfl rfl (by exact o0v (by omega))) ?_
 refine vT (O.shr rfl rfl rfl (by omega) (g0A (n:=n) (by omega) (by omega))) ?_
 refine vT (O.or_ rfl rfl rfl u0t) ?_
 refine zc (zI (zo (xc ?_)))
 refine vu rfl rfl nS (⟨by rw[hr],rfl⟩)
theorem d0A (x:UInt32)(n:Nat)(hn:0<n∧n<32):Sp Tryz.prog 205 [.val (e32 x),.val (.int .i64 (n:Int))] [] (Is (.val (e32 (rr x (UInt32.ofNat n))))):=by
 refine yN Tryz.func205 _ Tryz.ntmps205 (fun w0 R0=> ?_)
 refine zD (zr ?_)
 refine zc (zI (zo (zD (zr ?_))))
 refine zb ?_
 refine zb ?_
 refine vT (O.neg rfl rfl (by exact e0h (by omega))) ?_
 refine vT (xH rfl Tryz.func211 rfl rfl rfl (o0L x n hn)) ?_
 refine zc (zI (zo (xc ?_)))
 refine yE
def kk512:List UInt64:= [0x428a2f98d728ae22,0x7137449123ef65cd,0xb5c0fbcfec4d3b2f,0xe9b5dba58189dbbc,0x3956c25bf348b538,0x59f111f1b605d019,0x923f82a4af194f9b,0xab1c5ed5da6d8118,
 0xd807aa98a3030242,0x12835b0145706fbe,0x243185be4ee4b28c,0x550c7dc3d5ffb4e2,0x72be5d74f27b896f,0x80deb1fe3b1696b1,0x9bdc06a725c71235,0xc19bf174cf692694,
 0xe49b69c19ef14ad2,0xefbe4786384f25e3,0x0fc19dc68b8cd5b5,0x240ca1cc77ac9c65,0x2de92c6f592b0275,0x4a7484aa6ea6e483,0x5cb0a9dcbd41fbd4,0x76f988da831153b5,
 0x983e5152ee66dfab,0xa831c66d2db43210,0xb00327c898fb213f,0xbf597fc7beef0ee4,0xc6e00bf33da88fc2,0xd5a79147930aa725,0x06ca6351e003826f,0x142929670a0e6e70,
 0x27b70a8546d22ffc,0x2e1b21385c26c926,0x4d2c6dfc5ac42aed,0x53380d139d95b3df,0x650a73548baf63de,0x766a0abb3c77b2a8,0x81c2c92e47edaee6,0x92722c851482353b,
 0xa2bfe8a14cf10364,0xa81a664bbc423001,0xc24b8b70d0f89791,0xc76c51a30654be30,0xd192e819d6ef5218,0xd69906245565a910,0xf40e35855771202a,0x106aa07032bbd1b8,
 0x19a4c116b8d2d0c8,0x1e376c085141ab53,0x2748774cdf8eeb99,0x34b0bcb5e19b48a8,0x391c0cb3c5c95a63,0x4ed8aa4ae3418acb,0x5b9cca4f7763e373,0x682e6ff3d6b2b8a3,
 0x748f82ee5defb2fc,0x78a5636f43172f60,0x84c87814a1f0ab72,0x8cc702081a6439ec,0x90befffa23631e28,0xa4506cebde82bde9,0xbef9a3f7b2c67915,0xc67178f2e372532b,
 0xca273eceea26619c,0xd186b8c721c0c207,0xeada7dd6cde0eb1e,0xf57d4f7fee6ed178,0x06f067aa72176fba,0x0a637dc5a2c898a6,0x113f9804bef90dae,0x1b710b35131c471b,
 0x28db77f523047d84,0x32caab7b40c72493,0x3c9ebe0a15c9bebc,0x431d67c49c100d4c,0x4cc5d4becb3e42b6,0x597f299cfc657e2a,0x5fcb6fab3ad6faec,0x6c44198c4a475817]
def hh512:List UInt64:= [0x6a09e667f3bcc908,0xbb67ae8584caa73b,0x3c6ef372fe94f82b,0xa54ff53a5f1d36f1,0x510e527fade682d1,0x9b05688c2b3e6c1f,0x1f83d9abfb41bd6b,0x5be0cd19137e2179]
def kkA:List AV:=kk512.map fun a=> .val (e64 a)
theorem r0X:kkA.length=80:=rfl
instance :TyB Tryz.prog 226 ((List.range 80).map fun i=>(i*1,1)) (.agg ⟨List.replicate 80 (.int .u64 0)⟩):=⟨_,Tryz.type226,by kernel_rfl,.inr ⟨80,88,_,Tryz.underlying226,Tryz.type88,by kernel_rfl⟩⟩
theorem i0L:Sp Tryz.prog 204 [] [] (Is (.agg kkA)):=by
 refine yN Tryz.func204 _ Tryz.ntmps204 (fun w0 R0=> ?_)
 refine zD (zr ?_)
 refine zd ?_
 intro B1
 refine zI (zo (zD (zr ?_)))
 refine zN ?_
 refine za 0 (zI (zo (xc ?_)))
 refine AQ.retCell rfl rfl (by repeat(exact List.Mem.head _)) (by rfl) rfl nS (⟨rfl,rfl⟩)
theorem l0F:Sp Tryz.prog 192 [] [] (Is (.agg (hh512.map fun a=> .val (e64 a)))):=by
 refine yN Tryz.func192 _ Tryz.ntmps192 (fun w0 R0=> ?_)
 refine zD (zr ?_)
 refine zd ?_
 intro B1
 refine zI (zo (zD (zr ?_)))
 refine zN ?_
 refine za 0 (zI (zo (xc ?_)))
 refine AQ.retCell rfl rfl (by repeat(exact List.Mem.head _)) (by rfl) rfl nS (⟨rfl,rfl⟩)
theorem r0Y {k:Nat}(h:k<80){j:Nat}(hj:j=k):kkA[j]? =some (.val (e64 (kk512.getD k 0))):=by
 subst hj
 have hl:kk512.length=80:=rfl
 simp[kkA,List.getD,show j<kk512.length by omega]
theorem v0d {t:Nat}(h:t<64):IntKind.u32.wrap (((kk512.getD t 0).toNat:Int)/4294967296)=((k256.getD t 0).toNat:Int):=by
 have key: ∀t,t<64→(kk512.getD t 0).toNat/4294967296=(k256.getD t 0).toNat:=by decide +kernel
 have:=key t h
 have h2:=(k256.getD t 0).toNat_lt
 rw[d0e]
 omega
theorem h0d (b:List UInt8)(t:Nat):(o0r b t).length=64:=j0U _ _
def h8 (s:H8)(q:Nat):UInt32:=match q with|0=>s.a|1=>s.b|2=>s.c|3=>s.d|4=>s.e|5=>s.f|6=>s.g|_=>s.h
def l0A (s r:H8)(i q:Nat):UInt32:=if q<i then h8 s q+h8 r q else h8 s q
theorem p0m (s r:H8)(i q:Nat):(if q=i then l0A s r i i+h8 r i else l0A s r i q)=l0A s r (i+1) q:=by
 unfold l0A
 by_cases h:q=i
 ·subst h;rw[if_pos rfl,if_neg (by omega),if_pos (by omega)]
 rw[if_neg h]
 by_cases h2:q<i
 ·rw[if_pos h2,if_pos (by omega)]
 rw[if_neg h2,if_neg (by omega)]
theorem p0n (s r:H8):arK e32 8 (l0A s r 8)=c8 (v0p s r):=rfl
theorem q0A (r:H8){k:Nat}(h:k<8){j:Nat}(hj:j=k):(c8 r)[j]? =some (.val (e32 (h8 r k))):=by
 subst hj
 have hc:j=0∨j=1∨j=2∨j=3∨j=4∨j=5∨j=6∨j=7:=by omega
 rcases hc with rfl|rfl|rfl|rfl|rfl|rfl|rfl|rfl<;>rfl
theorem n0t (s r:H8):arK e32 8 (l0A s r 0)=c8 s:=rfl
set_option maxHeartbeats 8000000 in
theorem j0S (s:H8)(b:List UInt8)(hb:b.length=64):Sp Tryz.prog 194 [.agg (c8 s),roB b] [] (Is (.agg (c8 (k0X s b)))):=by
 refine yN Tryz.func194 _ Tryz.ntmps194 (fun w0 R0=> ?_)
 refine zD (zr ?_)
 refine ye ?_
 intro B1
 refine zd ?_
 intro B2
 refine zI (zo (zD (zr ?_)))
 refine vT (xH rfl Tryz.func204 rfl rfl rfl i0L) ?_
 refine zd ?_
 intro B3
 refine yQ 0 (zI (zo (zD (zr ?_))))
 refine zd ?_
 intro B4
 refine zI (zo (zD (zD (zr ?_))))
 refine zb (zI (zo (xj ?_)))
 have hsp: ∀xs:List AV,xs.length=80→a0d xs 0 kkA=kkA:=fun xs h=>f0u (by rw[h,r0X])
 rw[hsp _ rfl]
 refine zh [(1,_),(2,_),(4,_),(5,_),(6,_)] (fun nn E H=> ∃(t:Nat),(t≤64)∧nn=64-t∧E= [(18,.val (.int .i64 (t:Int)))]∧H= [.blk B4 228 64 (o0r b t),.blk B3 226 80 kkA,.blk B2 207 8 [.val (e32 0),.val (e32 0),.val (e32 0),.val (e32 0),.val (e32 0),.val (e32 0),.val (e32 0),.val (e32 0)],.blk B1 207 8 (c8 s)]) _ (⟨0,by omega,rfl,rfl,rfl⟩) ?_
 rintro nn E H ⟨t,ht,rfl,rfl,rfl⟩
 dsimp only[cA,cN]
 refine zD (zr ?_)
 refine zP (zI (zo (zD ?_)))
 refine yk (fun hlt=> ?_) (fun hlt=> ?_)<;>(try simp only[vX]at hlt)
 ·refine yX (zo (zD (xj (zD (zr ?_)))))
  refine zb ?_
  refine zc (zI (zo (zD (zD (zr ?_)))))
  refine zb ?_
  refine zP (zI (zo ?_))
  refine yk (fun h16=> ?_) (fun h16=> ?_)<;>(try simp only[vX]at h16)
  ·have hwv:l0e b t=if t<16 then l0e b t else l0z (wTo b t) t:=(if_pos (by omega)).symm
   refine zD ?_
   refine yw 35 ?_
   simp only[cT,cZ,cD,cO]
   refine zG ?_
   refine zG ?_
   refine zG ?_
   refine xt ?_
   refine xn ?_
   refine vS (O.loadR rfl rfl (by exact b0d (k:=4*t) (by omega) (by omega))) ?_
   refine vS (O.conv rfl rfl d0Z) ?_
   refine vS (O.shl rfl rfl rfl (by omega) (k0j (n:=24) rfl (by decide))) ?_
   refine zG ?_
   refine zG ?_
   refine xt ?_
   refine xk ?_
   refine xn ?_
   refine vS (O.loadR rfl rfl (by exact b0d (k:=4*t+1) (by omega) (by omega))) ?_
   refine vS (O.conv rfl rfl d0Z) ?_
   refine vS (O.shl rfl rfl rfl (by omega) (k0j (n:=16) rfl (by decide))) ?_
   refine vS (O.or_ rfl rfl rfl u0t) ?_
   refine zG ?_
   refine zG ?_
   refine xt ?_
   refine xk ?_
   refine xn ?_
   refine vS (O.loadR rfl rfl (by exact b0d (k:=4*t+2) (by omega) (by omega))) ?_
   refine vS (O.conv rfl rfl d0Z) ?_
   refine vS (O.shl rfl rfl rfl (by omega) (k0j (n:=8) rfl (by decide))) ?_
   refine vS (O.or_ rfl rfl rfl u0t) ?_
   refine zG ?_
   refine zG ?_
   refine xt ?_
   refine xk ?_
   refine xn ?_
   refine vS (O.loadR rfl rfl (by exact b0d (k:=4*t+3) (by omega) (by omega))) ?_
   refine vS (O.conv rfl rfl d0Z) ?_
   refine vS (O.or_ rfl rfl rfl u0t) ?_
   refine yP ?_
   refine wZ ?_
   simp only[a0f,cN,cA,cP]
   refine AO.store (i:=0) rfl rfl rfl rfl rfl rfl (by rfl) (by rfl) (Nat.ble_eq_true_of_le (by rw[h0d];omega)) (by exact k0a b (by omega) hwv (by omega)) (by(dsimp only[List.set,List.append,cA,cN,AV.cells,a0d,List.take,List.drop,Nat.reduceAdd];done)) (zI (zo ?_))
   refine wb ?_
   refine xY ?_
   refine xx (zo (zr ?_))
   refine zA ?_
   refine zb (zI ?_)
   refine zq _ _ _ (by omega) (⟨t+1,by omega,rfl,rfl,rfl⟩)
  have hwv:l0z (wTo b t) t=if t<16 then l0e b t else l0z (wTo b t) t:=(if_neg (by omega)).symm
  refine yX (zo (zD ?_))
  refine yw 10 ?_
  simp only[cT,cZ,cD,cO]
  refine zG ?_
  refine xT ?_
  refine yP ?_
  refine vS (O.load rfl rfl (by repeat(exact List.Mem.head _)) (by exact d0G b t (k:=t-15) (by omega) (by omega))) ?_
  refine zG ?_
  refine xT ?_
  refine yP ?_
  refine vS (O.load rfl rfl (by repeat(exact List.Mem.head _)) (by exact d0G b t (k:=t-2) (by omega) (by omega))) ?_
  refine vB ?_
  refine vB ?_
  refine wZ ?_
  simp only[a0f,cN,cA,cP]
  refine zI (zo ?_)
  refine yw 29 ?_
  simp only[cT,cZ,cD,cO]
  refine zG ?_
  refine zG ?_
  refine vS (xH rfl Tryz.func205 rfl rfl rfl (d0A _ 17 ⟨by decide,by decide⟩)) ?_
  refine zG ?_
  refine vS (xH rfl Tryz.func205 rfl rfl rfl (d0A _ 19 ⟨by decide,by decide⟩)) ?_
  refine vJ ?_
  refine zG ?_
  refine vS (O.shr rfl rfl rfl (by omega) (g0A (n:=10) rfl (by decide))) ?_
  refine vJ ?_
  refine zG ?_
  refine xT ?_
  refine yP ?_
  refine vS (O.load rfl rfl (by repeat(exact List.Mem.head _)) (by exact d0G b t (k:=t-7) (by omega) (by omega))) ?_
  refine vS (O.add rfl rfl rfl g0l) ?_
  refine zG ?_
  refine vS (xH rfl Tryz.func205 rfl rfl rfl (d0A _ 7 ⟨by decide,by decide⟩)) ?_
  refine zG ?_
  refine vS (xH rfl Tryz.func205 rfl rfl rfl (d0A _ 18 ⟨by decide,by decide⟩)) ?_
  refine vJ ?_
  refine zG ?_
  refine vS (O.shr rfl rfl rfl (by omega) (g0A (n:=3) rfl (by decide))) ?_
  refine vJ ?_
  refine vS (O.add rfl rfl rfl g0l) ?_
  refine zG ?_
  refine xT ?_
  refine yP ?_
  refine vS (O.load rfl rfl (by repeat(exact List.Mem.head _)) (by exact d0G b t (k:=t-16) (by omega) (by omega))) ?_
  refine vS (O.add rfl rfl rfl g0l) ?_
  refine yP ?_
  refine wZ ?_
  simp only[a0f,cN,cA,cP]
  refine AO.store (i:=0) rfl rfl rfl rfl rfl rfl (by rfl) (by rfl) (Nat.ble_eq_true_of_le (by rw[h0d];omega)) (by exact k0a b (by omega) hwv (by omega)) (by(dsimp only[List.set,List.append,cA,cN,AV.cells,a0d,List.take,List.drop,Nat.reduceAdd];done)) (zI (xz (zo (zr ?_))))
  refine zA ?_
  refine zb (zI ?_)
  refine zq _ _ _ (by omega) (⟨t+1,by omega,rfl,rfl,rfl⟩)
 obtain rfl:t=64:=by omega
 refine wb ?_
 refine xY ?_
 refine x3 ?_
 refine xx (zo (zD (zr ?_)))
 refine vT (O.loadK rfl rfl mM (by(dsimp only[List.set,List.append,cA,cN,AV.cells,a0d,List.take,List.drop,Nat.reduceAdd];done)) (by rfl)) ?_
 refine zd ?_
 intro B5
 refine yQ 0 (zI (zo (zD (zD (zr ?_)))))
 refine zb (zI (zo (xj ?_)))
 refine zh [(2,_),(4,_),(5,_),(6,_),(10,_)] (fun nn E H=> ∃(t:Nat),(t≤64)∧nn=64-t∧E= [(97,.val (.int .i64 (t:Int)))]∧H= [.blk B5 207 8 (c8 (r0k (wTo b 64) s t)),.blk B4 228 64 (o0r b 64),.blk B3 226 80 kkA,.blk B2 207 8 [.val (e32 0),.val (e32 0),.val (e32 0),.val (e32 0),.val (e32 0),.val (e32 0),.val (e32 0),.val (e32 0)],.blk B1 207 8 (c8 s)]) _ (⟨0,by omega,rfl,rfl,rfl⟩) ?_
 rintro nn E H ⟨t,ht,rfl,rfl,rfl⟩
 dsimp only[cA,cN]
 refine zD (zr ?_)
 refine zP (zI (zo (zD ?_)))
 refine yk (fun hlt=> ?_) (fun hlt=> ?_)<;>(try simp only[vX]at hlt)
 ·have hkt:=v0d (t:=t) (by omega)
  have hrd:=m0D (wTo b 64) s t
  have hk1: ∀j,j=t→kkA[j]? =some (.val (e64 (kk512.getD t 0))):=fun j hj=>r0Y (by omega) hj
  have hw1: ∀j,j=t→(o0r b 64)[j]? =some (.val (e32 ((wTo b 64).getD t 0))):=fun j hj=>d0G b 64 (by omega) hj
  have hwl:=h0d b 64
  generalize(wTo b 64).getD t 0=wt at*
  generalize r0k (wTo b 64) s t=q at*
  generalize o0r b 64=WA at*
  generalize kkA=KA at*
  generalize kk512.getD t 0=kt at*
  generalize k256.getD t 0=kc at*
  refine yX (zo (zD (xj (zD (zr ?_)))))
  refine zb ?_
  refine zc (zI (zo (zD ?_)))
  refine yw 6 ?_
  simp only[cT,cZ,cD,cO]
  refine yP ?_
  refine yL ?_
  refine yP ?_
  refine yL ?_
  refine vB ?_
  refine vB ?_
  refine wZ ?_
  simp only[a0f,cN,cA,cP]
  refine zI (zo (zD ?_))
  refine yw 33 ?_
  simp only[cT,cZ,cD,cO]
  refine yP ?_
  refine yL ?_
  refine zG ?_
  refine vS (xH rfl Tryz.func205 rfl rfl rfl (d0A _ 6 ⟨by decide,by decide⟩)) ?_
  refine zG ?_
  refine vS (xH rfl Tryz.func205 rfl rfl rfl (d0A _ 11 ⟨by decide,by decide⟩)) ?_
  refine vJ ?_
  refine zG ?_
  refine vS (xH rfl Tryz.func205 rfl rfl rfl (d0A _ 25 ⟨by decide,by decide⟩)) ?_
  refine vJ ?_
  refine vS (O.add rfl rfl rfl g0l) ?_
  refine zG ?_
  refine yP ?_
  refine yL ?_
  refine vS (O.and_ rfl rfl rfl o0h) ?_
  refine zG ?_
  refine vS (O.com32 rfl rfl) ?_
  refine yP ?_
  refine yL ?_
  refine vS (O.and_ rfl rfl rfl o0h) ?_
  refine vJ ?_
  refine vS (O.add rfl rfl rfl g0l) ?_
  refine zG ?_
  refine yP ?_
  refine vS (O.load rfl rfl mM (by exact hk1 _ (by omega))) ?_
  refine vS (wz 32 4294967296) ?_
  refine vS (O.conv rfl rfl hkt) ?_
  refine vS (O.add rfl rfl rfl g0l) ?_
  refine zG ?_
  refine yP ?_
  refine vS (O.load rfl rfl mM (by exact hw1 _ (by omega))) ?_
  refine vS (O.add rfl rfl rfl g0l) ?_
  refine vB ?_
  refine wZ ?_
  simp only[a0f,cN,cA,cP]
  refine zI (zo (zD ?_))
  refine yw 25 ?_
  simp only[cT,cZ,cD,cO]
  refine zG ?_
  refine vS (xH rfl Tryz.func205 rfl rfl rfl (d0A _ 2 ⟨by decide,by decide⟩)) ?_
  refine zG ?_
  refine vS (xH rfl Tryz.func205 rfl rfl rfl (d0A _ 13 ⟨by decide,by decide⟩)) ?_
  refine vJ ?_
  refine zG ?_
  refine vS (xH rfl Tryz.func205 rfl rfl rfl (d0A _ 22 ⟨by decide,by decide⟩)) ?_
  refine vJ ?_
  refine zG ?_
  refine yP ?_
  refine yL ?_
  refine vS (O.and_ rfl rfl rfl o0h) ?_
  refine zG ?_
  refine yP ?_
  refine yL ?_
  refine vS (O.and_ rfl rfl rfl o0h) ?_
  refine vJ ?_
  refine yP ?_
  refine yL ?_
  refine yP ?_
  refine yL ?_
  refine vS (O.and_ rfl rfl rfl o0h) ?_
  refine vJ ?_
  refine vS (O.add rfl rfl rfl g0l) ?_
  refine vB ?_
  refine wZ ?_
  simp only[a0f,cN,cA,cP]
  refine zI (zo (zr ?_))
  refine zb ?_
  refine zb ?_
  refine vT (O.add rfl rfl rfl g0l) ?_
  refine zb ?_
  refine wJ ?_
  refine zy ?_
  refine wJ ?_
  refine zy ?_
  refine wJ ?_
  refine zy ?_
  refine zb ?_
  refine vT (O.add rfl rfl rfl g0l) ?_
  refine zb ?_
  refine wJ ?_
  refine zy ?_
  refine wJ ?_
  refine zy ?_
  refine zN ?_
  refine yQ 0 (zI (xz (zo (zr ?_))))
  refine zA ?_
  refine zb (zI ?_)
  refine zq _ _ _ (by omega) (⟨t+1,by omega,rfl,rfl,by rw[hrd]⟩)
 obtain rfl:t=64:=by omega
 generalize hr:r0k (wTo b 64) s 64=r at*
 have hbr:k0X s b=v0p s r:=by rw[←hr];rfl
 generalize o0r b 64=WA at*
 generalize kkA=KA at*
 rw[←n0t s r]
 refine wb ?_
 refine xY ?_
 refine x3 ?_
 refine xx (zo (zD (zD (zr ?_))))
 refine zb (zI (zo (xj ?_)))
 refine zh [(2,_),(4,_),(10,_)] (fun nn E H=> ∃(i:Nat),(i≤8)∧nn=8-i∧E= [(179,.val (.int .i64 (i:Int)))]∧H= [.blk B5 207 8 (c8 r),.blk B4 228 64 WA,.blk B3 226 80 KA,.blk B2 207 8 [.val (e32 0),.val (e32 0),.val (e32 0),.val (e32 0),.val (e32 0),.val (e32 0),.val (e32 0),.val (e32 0)],.blk B1 207 8 (arK e32 8 (l0A s r i))]) _ (⟨0,by omega,rfl,rfl,rfl⟩) ?_
 rintro nn E H ⟨i,hi,rfl,rfl,rfl⟩
 dsimp only[cA,cN]
 refine zD (zr ?_)
 refine zP (zI (zo (zD ?_)))
 refine yk (fun hlt=> ?_) (fun hlt=> ?_)<;>(try simp only[vX]at hlt)
 ·have hg1: ∀j,j=i→(arK e32 8 (l0A s r i))[j]? =some (.val (e32 (l0A s r i i))):=fun j hj=>o0f (by omega) hj
  have hg2: ∀j,j=i→(c8 r)[j]? =some (.val (e32 (h8 r i))):=fun j hj=>q0A r (by omega) hj
  have hs1: ∀j,j=i→a0d (arK e32 8 (l0A s r i)) j [.val (e32 (l0A s r i i+h8 r i))]=arK e32 8 (l0A s r (i+1)):=fun j hj=>by
   rw[j0T (by omega:i<8) _ hj]
   exact g0g fun q _=>p0m s r i q
  have hln:(arK e32 8 (l0A s r i)).length=8:=j0U _ _
  refine yX (zo (zD (xj (zD (zr ?_)))))
  refine zb ?_
  refine zc (zI (zo ?_))
  refine yw 8 ?_
  simp only[cT,cZ,cD,cO]
  refine zG ?_
  refine yP ?_
  refine vS (O.load rfl rfl mM (by exact hg1 _ (by omega))) ?_
  refine zG ?_
  refine yP ?_
  refine vS (O.load rfl rfl (by repeat(exact List.Mem.head _)) (by exact hg2 _ (by omega))) ?_
  refine vS (O.add rfl rfl rfl g0l) ?_
  refine yP ?_
  refine wZ ?_
  simp only[a0f,cN,cA,cP]
  refine AO.store (i:=4) rfl rfl rfl rfl rfl rfl (by rfl) (by rfl) (by exact Nat.ble_eq_true_of_le (by rw[hln];omega)) (by exact hs1 _ (by omega)) (by(dsimp only[List.set,List.append,cA,cN,AV.cells,a0d,List.take,List.drop,Nat.reduceAdd];done)) (zI (xz (zo (zr ?_))))
  refine zA ?_
  refine zb (zI ?_)
  refine zq _ _ _ (by omega) (⟨i+1,by omega,rfl,rfl,rfl⟩)
 obtain rfl:i=8:=by omega
 rw[p0n]
 refine wb ?_
 refine xY ?_
 refine x3 ?_
 refine xx (zo (zD (zr ?_)))
 refine vT (O.loadK rfl rfl mM (by(dsimp only[List.set,List.append,cA,cN,AV.cells,a0d,List.take,List.drop,Nat.reduceAdd];done)) (by rfl)) ?_
 refine yQ 3 (zI (zo (xc ?_)))
 refine AQ.retCell rfl rfl mM (by rfl) rfl nS (⟨congrArg (fun x=>AV.agg (c8 x)) hbr.symm,rfl⟩)
end Go.Proofs.YtojomcdjcpmnkaaGreat.By
namespace Go.Proofs.YtojomcdjcpmnkaaGreat.A
open Go.RowKit L
section
variable {Γ:Cx}{P:Program}{E:Env}{H:List HE}{N:Nat}{o:Oper}
theorem RelV.plain {R R':Nat→Prop}{W W':World}{x:AV}{u:Value}(hx: ∃c,x= .val c)(h:RelV R W x u):RelV R' W' x u:=by
 obtain⟨c,rfl⟩:=hx
 rw[h.val_inv];exact .val _
theorem RelV.plainT {R R':Nat→Prop}{W W':World}{xs:List AV}{u:Value}(hx: ∀x∈xs,∃c,x=AV.val c)(h:RelV R W (.tup xs) u):RelV R' W' (.tup xs) u:=by
 cases h with
 |tup _ cs hs hc=>exact .tup xs cs hs fun j hj=>(hc j hj).plain (hx _ (List.getElem_mem hj))
theorem HE.plainRow {R R':Nat→Prop}{W:World}{v:Value}{T sz n:Nat}{xs:List AV}(hx: ∀x∈xs,∃c,x=AV.val c)(h:HE.ok R W (.row v T sz n xs)):HE.ok R' W (.row v T sz n xs):=by
 obtain⟨us,ho,hl,hr⟩:=h
 exact⟨us,ho,hl,fun j hj=>(hr j hj).plain (hx _ (List.getElem_mem hj))⟩
theorem k0b (n:Nat)(f:Nat→UInt8): ∀x∈arB n f,∃c,x=AV.val c:=fun x hx=>by
 rw[c0K]at hx
 obtain⟨q,_,rfl⟩:=List.mem_map.1 hx
 exact⟨_,rfl⟩
def o0o (Post:AV→List HE→Prop):Prop:= ∀r Hn,Post r Hn→(∀(R R':Nat→Prop) W u,RelV R W r u→RelV R' W r u)∧ ∀e∈Hn,∀(R R':Nat→Prop) W,HE.ok R W e→HE.ok R' W e
theorem O.callLP {f:FuncId}{xs:List Operand}{ats:Array TypeId}{args args':List AV}{v:Value}{T sz n:Nat}{rs:List AV}{fn:Func}{Post:AV→List HE→Prop}(ho:o.op= .call {callee:= .value (.func f),args:=xs.toArray,argTypes:=ats})(hfn:P.funcs[f]? =some fn)(hn:(fn.name== "runtime.NumGoroutine")=false)(hb:fn.body.isNone=false)
  (hx:evs E xs=some args) (hm:HE.row v T sz n rs∈H) (h:Sp P f args' [] Post) (hp:o0o Post) (hl:LendL v (.ro false n rs) args args'):OpW P N o E H Post:=fun R a W h0 h2 h3 ha=>by
 have hR: ∀b,R b→R b∨(HE.row v T sz n rs).foot b:=fun _ h=> .inl h
 have hlt: ∀b,R b∨(HE.row v T sz n rs).foot b→b<W.heap.size:=by
  rintro b (hb|hb)
  ·exact h0 b hb
  ·exact HE.ok_lt (h2 _ hm) hb
 unfold Oper.wp
 rw[b0V ho hfn hn hb,List.map_toArray]
 have hc:=h W _ (xs.map a.eval) hlt (fun e he=>by cases he) .nil (hl.rel hR (k0r (h2 _ hm)) (ha.evs hx))
 refine Calls.mono hc ?_
 rintro e W' ⟨u,r,H',R',rfl,hpo,hs,hv⟩
 have p:=d0V hs hv hlt
 obtain⟨q1,q2⟩:=hp r H' hpo
 refine⟨u,r,H',R,rfl,hpo,p.ext,fun _ h=>h,fun _ h=> .inl h,q1 _ _ _ _ hv,fun e he=>⟨q2 e he _ _ _ (p.ok e he).1,fun b hb=> ?_⟩,p.disj⟩
 have:=(p.ok e he).2 b hb
 exact⟨this.1,fun hr=>by have:=h0 b hr;omega⟩
inductive LendX (H:List HE):List AV→List AV→Prop
 |nil:LendX H [] []
 |same {a:AV} {r r':List AV}:LendX H r r'→LendX H (a::r) (a::r')
 |row {v:Value} {T sz n:Nat} {rs r r':List AV} (i:Nat) (hi:H[i]? =some (.row v T sz n rs)):LendX H r r'→LendX H (.val v::r) (.ro false n rs::r')
 |agg {xs xs' r r':List AV}:LendX H xs xs'→LendX H r r'→LendX H (.agg xs::r) (.agg xs'::r')
theorem LendX.rel {R:Nat→Prop}{W:World}(hok: ∀e∈H,e.ok R W){a a':List AV}(h:LendX H a a'): ∀{us:List Value},RelL R W a us→RelL (fun b=>R b∨ ∃e∈H,e.foot b) W a' us:=by
 induction h with
 |nil=>intro us h;exact h.mono (fun _ h=> .inl h) (fun _ _=>rfl)
 |same _ ih=>
  intro us h
  obtain⟨u,r,rfl,h1,h2⟩:=h.uncons
  exact RelL.cons (h1.mono (fun _ h=> .inl h) (fun _ _=>rfl)) (ih h2)
 |row i hi _ ih=>
  intro us h
  obtain⟨u,r,rfl,h1,h2⟩:=h.uncons
  have:=h1.val_inv
  subst this
  have hm:=List.mem_of_getElem? hi
  exact RelL.cons ((k0r (hok _ hm)).mono (fun b hb=>hb.elim .inl fun hf=> .inr ⟨_,hm,hf⟩) (fun _ _=>rfl)) (ih h2)
 |agg _ _ ih1 ih2=>
  intro us h
  obtain⟨u,r,rfl,h1,h2⟩:=h.uncons
  obtain⟨vs,rfl,hv⟩:=h1.agg_inv
  exact RelL.cons (ih1 hv).toAgg (ih2 h2)
theorem AO.callMGw {Q:Exit→Act→World→Prop}{ops:Array Oper}{rest:List Oper}{f:FuncId}{d:Nat}{xs:List Operand}{ats:Array TypeId}{args:List AV}(i:Nat){e:HE}{Post:AV→List HE→Prop}{fn:Func}(ho:o.op= .call {callee:= .value (.func f),args:=xs.toArray,argTypes:=ats})(hw:a0e ops E o=some true)(hfn:P.funcs[f]? =some fn)(hn:(fn.name== "runtime.NumGoroutine")=false)(hb:fn.body.isNone=false)
  (hx:evs E xs=some args) (hd:o.dst=some d) (hN:Nat.ble (d+1) Γ.N=true) (hi:H[i]? =some e) (h:Sp P f args [e] Post) (next: ∀r H',Post r H'→AO Γ P ops Q rest ((d,r)::E) (H'++H.eraseIdx i)):AO Γ P ops Q (o::rest) E H:=fun R a W hs ha=>by
 have h1:=AO.callMG (o:={o with guard:=none}) i ho rfl hfn hn hb hx hd hN hi h next R a W hs ha
 unfold wpList at h1⊢
 rw[if_pos (f0p ha hw)]
 rw[if_pos (by unfold Region.wanted;rfl)]at h1
 exact h1
end
def GK (g:Nat)(vs:List Value)(W:World):Prop:= ∃cs T,W.heap[g]? =some (.cells cs T (0,0))∧cs.toList=vs
theorem GK.lt {g:Nat}{vs:List Value}{W:World}(h:GK g vs W):g<W.heap.size:=by
 obtain⟨cs,T,h,_⟩:=h
 exact(Array.getElem?_eq_some_iff.1 h).1
theorem GK.mods {g:Nat}{vs:List Value}{S:Nat→Prop}{W W':World}(h:GK g vs W)(hm:Mods S W W')(hS: ¬S g):GK g vs W':=by
 have hl:=h.lt
 obtain⟨cs,T,h1,h2⟩:=h
 exact⟨cs,T,by rw[hm.block g hl hS];exact h1,h2⟩
def SpK (K:World→Prop)(P:Program)(f:FuncId)(args:List AV)(H0:List HE)(Post:AV→List HE→Prop):Prop:=
 ∀(W:World) (R:Nat→Prop) (us:List Value),K W→(∀b,R b→b<W.heap.size)→(∀e∈H0,e.ok R W∧ ∀b,e.foot b→ ¬R b)→H0.Pairwise Disj→RelL R W args us→
  Calls P f us.toArray W fun e W'=> ∃u r H' R',e= .returned u∧Post r H'∧RelS ⟨W,a0D H0,R,0⟩ R' H' W'∧RelV R' W' r u
theorem SpK.of {K:World→Prop}{P:Program}{f:FuncId}{args:List AV}{H0:List HE}{Post:AV→List HE→Prop}(h:Sp P f args H0 Post):SpK K P f args H0 Post:=fun W R us _ h1 h2 h3 h4=>h W R us h1 h2 h3 h4
theorem SpK.coe {K:World→Prop}{P:Program}{f:FuncId}{args args':List AV}{H0:List HE}{Post:AV→List HE→Prop}(h:SpK K P f args' H0 Post)(hc:CoeL args args'):SpK K P f args H0 Post:=fun W R us hK h1 h2 h3 h4=>h W R us hK h1 h2 h3 (hc R W us h4)
theorem SpK.enter {K:World→Prop}{P:Program}{f:FuncId}{args:List AV}{H0:List HE}{Post:AV→List HE→Prop}{fn:Func}{c:Code}(hf:P.funcs[f]? =some fn)(hb:fn.body=some c)(n:Nat)(hn:fn.ntmps=n)(hl:Nat.ble args.length n=true)
  (h: ∀w0 R0,K w0→AW ⟨w0,a0D H0,R0,n⟩ P (FnQ ⟨w0,a0D H0,R0,n⟩ P fn Post) c (i0F 0 args) H0):SpK K P f args H0 Post:=fun W R us hK h1 h2 h3 h4=>by
 refine calls_of_wp hf hb (h W R hK R _ W ⟨Mods.refl _ _,h1,fun _ h=>h,fun _ h=> .inl h,fun e he=>(h2 e he).1,fun e he b hb=>⟨.inr ⟨e,he,hb⟩,(h2 e he).2 b hb⟩,h3⟩ ⟨rfl,?_,?_⟩)
 ·have:=lB hl
  have h5:=h4.1
  simp[hn];omega
 ·intro t v ht
  have key: ∀(args:List AV) (k:Nat),a0t (i0F k args) t=some v→k≤t∧args[t-k]? =some v:=by
   intro args
   induction args with
   |nil=>intro k h;cases h
   | cons x r ih=>
    intro k h
    rw[i0F]at h
    unfold a0t at h
    cases hb:Nat.beq k t with
    |true=>
     rw[hb]at h
     have:=Nat.eq_of_beq_eq_true hb
     subst this
     simp at h⊢;exact h
    |false=>
     rw[hb]at h
     obtain⟨h5,h6⟩:=ih (k+1) h
     have:k≠t:=fun e=>by subst e;simp at hb
     refine⟨by omega,?_⟩
     rw[show t-k=(t-(k+1))+1 by omega]
     simpa using h6
  obtain⟨_,h5⟩:=key args 0 ht
  obtain⟨u,h6,h7⟩:=h4.get (j:=t) (by simpa using h5)
  have ht':t<us.length:=(List.getElem?_eq_some_iff.1 h6).1
  have hu:us[t]=u:=(List.getElem?_eq_some_iff.1 h6).2
  have:Act.eval {tmps:=us.toArray++Array.replicate (fn.ntmps-us.toArray.size) undef,defers:= []} (.tmp t)=u:=by
   simp only[Act.eval,Array.getD]
   rw[dif_pos (by simp;omega)]
   simp[Array.getElem_append,ht',hu]
  rw[this];exact h7
section
variable {Γ:Cx}{P:Program}{Q:Exit→Act→World→Prop}{E:Env}{H:List HE}{N:Nat}{o:Oper}{ops:Array Oper}{rest:List Oper}
theorem O.index1 {T U:Nat}{x y:Operand}{n:Nat}{kk:IntKind}{z:Int}{xs:List AV}{v:AV}[hd:TyD P T (.array n U)][hg:TyG P U false 1](ho:o.op= .index T x y)(hx:ev E x=some (.agg xs))(hy:ev E y=some (.val (.int kk z)))(hz:0≤z∧z<n)(hv:xs[z.toNat]? =some v):
  OpW P N o E H (Is v):= .of_run fun R a W h1 h2 ha=>by
 obtain⟨d,inf,hd1,hi1,hk1,hg1⟩:=hg.ax
 obtain⟨us,hu,hr⟩:=(ha.ev hx).agg_inv
 obtain⟨u,h3,h4⟩:=hr.get hv
 refine⟨u,?_,h4⟩
 simp only[execOp,ho,hu,(ha.ev hy).val_inv,Instr.index,asIntOf,run_underlying hd.ax,Sem.run_bind,Sem.run_pure,Result.andThen_ok,sizeOf,typeInfo,run_program,hi1,hk1]
 rw[if_pos hz]
 cases d<;>first|(cases hg1;done)|(simp[part,isAgg,run_underlying hd1,sizeOf,typeInfo,hi1,hk1,h3])
end
end Go.Proofs.YtojomcdjcpmnkaaGreat.A
namespace Go.Proofs.YtojomcdjcpmnkaaGreat.By
open Go.RowKit L A
attribute [local irreducible] AW AQ AO
theorem b0s (l:List UInt8)(b:UInt8):a0a (l++[b])=a0a l++[.val (.int .u8 (b.toNat:Int))]:=by simp[a0a]
theorem k0B (n:Nat):UInt8.ofNat n=u8 (n:Int):=by
 unfold u8
 exact UInt8.toNat_inj.1 (by simp only[UInt8.toNat_ofNat'];omega)
theorem r0b {n m:Nat}{z:Int}(hz:z=(m:Int))(hm:m<64):((n:Int)).fdiv (2^ (min z.toNat IntKind.u64.bits))=((n/2^m:Nat):Int):=by
 subst hz
 have e:min ((m:Int)).toNat IntKind.u64.bits=m:=by
  show min m 64=m
  omega
 rw[e,Int.fdiv_eq_ediv_of_nonneg _ (by exact Int.le_of_lt (Int.pow_pos (by omega))),show(2:Int)^m=((2^m:Nat):Int) by rw[Int.natCast_pow];rfl,←Int.natCast_ediv]
theorem t0o (b:List UInt8)(hb:b.length≤1000000):Sp Tryz.prog 193 [roB b,.val (.int .i64 64)] [] (Is (roB (p0e b))):=by
 refine yN Tryz.func193 _ Tryz.ntmps193 (fun w0 R0=> ?_)
 refine zD (zr ?_)
 refine zc (zI (zo (zD (zr ?_))))
 refine zb ?_
 refine yD ?_
 intro V1 hV1
 refine zQ ?_
 intro B2
 refine AO.g ?_
 refine yc 0 10 ?_
 refine wd 10 ?_
 refine AO.u ?_
 dsimp only[List.eraseIdx]
 refine yi 0 ?_
 intro V3 hV3
 refine zc (zI (zo (zD (xj ?_))))
 rw[show a0a b++[.val (.int .u8 128)]=a0a (b++[128])from(b0s b 128).symm,show b.length+1=(b++[128]).length by simp]
 refine zh [(0,_),(1,_)] (fun nn E H=> ∃(k:Nat) (V:Value) (l:List UInt8),(k≤i0n b.length)∧(V.oneCell'=true)∧(l=b++[128]++List.replicate k 0)∧nn=i0n b.length-k∧E= [(5,.val V)]∧H= [.row V 5 1 l.length (a0a l)]) _ (⟨0,_,b++[128],by omega,‹_›,by simp,rfl,rfl,rfl⟩) ?_
 rintro nn E H ⟨k,V,l,hk,hV,hl,rfl,rfl,rfl⟩
 dsimp only[cA,cN]
 have hll:l.length=b.length+1+k:=by rw[hl];simp;omega
 have hpz:=n0d b.length
 refine zD (zD (zr ?_))
 refine zb ?_
 refine wn ?_
 refine zb ?_
 refine wk ?_
 refine zb ?_
 refine zb ?_
 refine wI ?_
 refine yK ?_
 refine y1 (zI (zo ?_))
 refine yk (fun h1=> ?_) (fun h1=> ?_)<;>(try simp only[vX]at h1)
 ·have hk2:k<i0n b.length:=by
   by_cases g:k<i0n b.length
   ·exact g
   exfalso
   have h3:=p0c b.length
   rw[show i0n b.length=k by omega]at h3
   omega
  have hgu:a0a (l++[0])=a0a l++[.val (.int .u8 0)]:=b0s l 0
  have hgl:(l++[0]).length=l.length+1:=by simp
  refine yX (zo (xj (zr ?_)))
  refine zb ?_
  refine zQ ?_
  intro B4
  refine AO.g ?_
  refine yc 0 22 ?_
  refine wd 22 ?_
  refine AO.u ?_
  dsimp only[List.eraseIdx]
  refine yi 0 ?_
  intro V5 hV5
  refine zc (zI (xz ?_))
  rw[show a0a l++_=_ from hgu.symm,←hgl]
  refine zq _ _ _ (by omega) (⟨k+1,_,l++[0],by omega,‹_›,by rw[hl,List.replicate_succ',List.append_assoc (b++[128])],rfl,rfl,rfl⟩)
 have hk2:k=i0n b.length:=r0y hk (by omega)
 refine wb ?_
 refine xY ?_
 refine x3 ?_
 refine xx (zo (zD (xj ?_)))
 refine zh [(0,_),(1,_)] (fun nn E H=> ∃(j:Nat) (V:Value),(j=0)∧(V.oneCell'=true)∧j=nn∧E= [(5,.val V)]∧H= [.row V 5 1 l.length (a0a l)]) _ (⟨0,V,rfl,hV,rfl,rfl,rfl⟩) ?_
 rintro nn E H ⟨j,V,hj,hV,rfl,rfl,rfl⟩
 dsimp only[cA,cN]
 refine zD (zD (zr ?_))
 refine zb ?_
 refine wn ?_
 refine zb ?_
 refine wk ?_
 refine zb ?_
 refine yK ?_
 refine vT (O.neq rfl rfl rfl (by exact bne_eq_false_iff_eq.2 (by omega))) (zI (zo ?_))
 refine yk (fun h2=> ?_) (fun h2=> ?_)<;>(try simp only[vX]at h2)
 ·exact absurd h2 (by simp)
 refine wb ?_
 refine xY ?_
 refine x3 ?_
 refine xx (zo (zD (zr ?_)))
 refine zb ?_
 refine zW ?_
 refine wa ?_
 refine vT (O.mul rfl rfl rfl (by exact o0v (by omega))) ?_
 refine zc (zI (zo (zD (zD (zr ?_)))))
 refine zc (zI (zo (xj ?_)))
 refine zh [(6,_)] (fun nn E H=> ∃(k2:Nat) (V:Value) (q:List UInt8),(k2≤8)∧(V.oneCell'=true)∧(q=l++l0C b.length k2)∧(q.length≤l.length+8)∧nn=8-k2∧E= [(5,.val V),(7,.val (.int .i64 (7-(k2:Int))))]∧H= [.row V 5 1 q.length (a0a q)]) _ (⟨0,V,l,by omega,hV,by simp[l0C],by omega,rfl,rfl,rfl⟩) ?_
 rintro nn E H ⟨k2,V,q,hk3,hV,hq,hql,rfl,rfl,rfl⟩
 dsimp only[cA,cN]
 refine zD (zD (zr ?_))
 refine zb ?_
 refine ww (zI (zo ?_))
 refine yk (fun h3=> ?_) (fun h3=> ?_)<;>(try simp only[vX]at h3)
 ·have hs:=l0B b.length (k:=k2) (by omega)
  rw[k0B]at hs
  have hbn:(b.length:Int)*8=((b.length*8:Nat):Int):=by omega
  rw[hbn]
  refine yX (zo (zD (xj (zr ?_))))
  refine zb ?_
  refine zb ?_
  refine zb ?_
  refine wa ?_
  refine vT (O.mul rfl rfl rfl (by exact o0v (by omega))) ?_
  refine vT (O.shr rfl rfl rfl (by omega) (r0b (m:=8*(7-k2)) (by omega) (by omega))) ?_
  refine xa ?_
  refine zQ ?_
  intro B6
  refine AO.g ?_
  refine yc 0 49 ?_
  refine wd 49 ?_
  refine AO.u ?_
  dsimp only[List.eraseIdx]
  refine yi 0 ?_
  intro V7 hV7
  refine zc (zI (xz (zo (zr ?_))))
  refine zb ?_
  refine yK ?_
  refine zc (zI ?_)
  have hgu:=b0s q (u8 ((b.length*8/2^ (8*(7-k2)):Nat):Int))
  have hgl:(q++[u8 ((b.length*8/2^ (8*(7-k2)):Nat):Int)]).length=q.length+1:=by simp
  rw[show a0a q++_=_ from hgu.symm,←hgl,show 7-(k2:Int)-1=7-((k2+1:Nat):Int) by omega]
  refine zq _ _ _ (by omega) (⟨k2+1,_,q++[u8 ((b.length*8/2^ (8*(7-k2)):Nat):Int)],by omega,‹_›,by rw[hq,hs,List.append_assoc],by(have:=congrArg List.length hq;rw[cH,l0C,List.length_take]at this;omega),rfl,rfl,rfl⟩)
 obtain rfl:k2=8:=by omega
 have hqp:q=p0e b:=by rw[hq,hl,hk2,n0v];rfl
 subst hqp
 refine wb ?_
 refine xY ?_
 refine x3 ?_
 refine xx (zo (zD (zr ?_)))
 refine zb ?_
 refine zc (zI (zo (xc ?_)))
 refine AQ.g ?_
 refine yf 0 [4] ?_
 refine AQ.u ?_
 try dsimp only[List.map,List.eraseIdx,cA,cN]
 refine yE
def hTo (k q:Nat):UInt32:=if q<k then h8 p0z q else 0
theorem p0y (k q:Nat):(if q=k then h8 p0z k else hTo k q)=hTo (k+1) q:=by
 unfold hTo
 by_cases h:q=k
 ·subst h;rw[if_pos rfl,if_pos (by omega)]
 rw[if_neg h]
 by_cases h2:q<k
 ·rw[if_pos h2,if_pos (by omega)]
 rw[if_neg h2,if_neg (by omega)]
theorem s0c:arK e32 8 (hTo 8)=c8 p0z:=rfl
theorem v0f {t:Nat}(h:t<8):IntKind.u32.wrap (((hh512.getD t 0).toNat:Int)/4294967296)=((h8 p0z t).toNat:Int):=by
 have key: ∀t,t<8→(hh512.getD t 0).toNat/4294967296=(h8 p0z t).toNat:=by decide +kernel
 have:=key t h
 have h2:=(h8 p0z t).toNat_lt
 rw[d0e]
 omega
theorem t0M {k:Nat}(h:k<8){j:Nat}(hj:j=k):(hh512.map fun a=>AV.val (e64 a))[j]? =some (.val (e64 (hh512.getD k 0))):=by
 subst hj
 have hl:hh512.length=8:=rfl
 simp[List.getD,show j<hh512.length by omega]
def e0R (s:H8)(k:Nat):List UInt8:=(List.range k).flatMap fun i=>w4 (h8 s i)
theorem g0L (s:H8)(k:Nat):e0R s (k+1)=e0R s k++w4 (h8 s k):=by
 unfold e0R
 rw[List.range_succ,List.flatMap_append];simp
theorem n0f (s:H8):e0R s 8=u0Z s:=rfl
theorem d0S (s:H8): ∀k,(e0R s k).length=4*k
 |0=>rfl
 |k+1=>by rw[g0L,cH,d0S s k];show 4*k+4=_;omega
theorem q0c (b:List UInt8)(hb:b.length≤1000000):Sp Tryz.prog 176 [roB b] [] (Is (roB (sha b))):=by
 refine yN Tryz.func176 _ Tryz.ntmps176 (fun w0 R0=> ?_)
 refine zD (zr ?_)
 refine zc (zI (zo (zD (zr ?_))))
 refine zd ?_
 intro B1
 refine zI (zo (zD (zD (zr ?_))))
 refine vT (xH rfl Tryz.func192 rfl rfl rfl l0F) ?_
 refine zb (zI (zo (xj ?_)))
 refine zh [(0,_),(3,_),(11,_)] (fun nn E H=> ∃(k:Nat),(k≤8)∧nn=8-k∧E= [(12,.val (.int .i64 (k:Int)))]∧H= [.blk B1 207 8 (arK e32 8 (hTo k))]) _ (⟨0,by omega,rfl,rfl,rfl⟩) ?_
 rintro nn E H ⟨k,hk,rfl,rfl,rfl⟩
 dsimp only[cA,cN]
 refine zD (zr ?_)
 refine zP (zI (zo (zD ?_)))
 refine yk (fun hlt=> ?_) (fun hlt=> ?_)<;>(try simp only[vX]at hlt)
 ·have hg1: ∀j,j=k→(hh512.map fun a=>AV.val (e64 a))[j]? =some (.val (e64 (hh512.getD k 0))):=fun j hj=>t0M (by omega) hj
  have hs1: ∀j,j=k→a0d (arK e32 8 (hTo k)) j [.val (e32 (h8 p0z k))]=arK e32 8 (hTo (k+1)):=fun j hj=>by
   rw[j0T (by omega:k<8) _ hj]
   exact g0g fun q _=>p0y k q
  have hln:(arK e32 8 (hTo k)).length=8:=j0U _ _
  have hc:=v0f (t:=k) (by omega)
  generalize hh512.getD k 0=x at*
  generalize h8 p0z k=y at*
  refine yX (zo (zD (xj (zD (zr ?_)))))
  refine zb ?_
  refine vT (O.index1 rfl rfl rfl ⟨(by omega),(by omega)⟩ (by exact hg1 _ (by omega))) ?_
  refine zc ?_
  refine zc (zI (zo (zr ?_)))
  refine zb ?_
  refine zb ?_
  refine vT (wz 32 4294967296) ?_
  refine vT (O.conv rfl rfl hc) ?_
  refine wJ ?_
  refine AO.store (i:=0) rfl rfl rfl rfl rfl rfl (by rfl) (by rfl) (by exact Nat.ble_eq_true_of_le (by rw[hln];omega)) (by exact hs1 _ (by omega)) (by(dsimp only[List.set,List.append,cA,cN,AV.cells,a0d,List.take,List.drop,Nat.reduceAdd];done)) (zI (xz (zo (zr ?_))))
  refine zA ?_
  refine zb (zI ?_)
  refine zq _ _ _ (by omega) (⟨k+1,by omega,rfl,rfl,rfl⟩)
 obtain rfl:k=8:=by omega
 rw[s0c]
 obtain⟨p,hp⟩: ∃p,p=p0e b:=⟨_,rfl⟩
 have hpm:p.length%64=0:=by rw[hp];exact p0d b
 have hpl:p.length≤2000000:=by
  have:=n0d b.length
  rw[hp,p0e]
  simp only[cH,List.length_replicate,List.length_singleton,show(t0F b.length).length=8 from rfl];omega
 obtain⟨m,hm⟩: ∃m,64*m=p.length:=⟨p.length/64,by omega⟩
 refine wb ?_
 refine xY ?_
 refine x3 ?_
 refine xx (zo (zD (zr ?_)))
 refine zb ?_
 refine vT (xH rfl Tryz.func193 rfl rfl rfl (t0o b hb)) ?_
 refine zc (zI (zo (zD (zD (zr ?_)))))
 refine zc (zI (zo (xj ?_)))
 rw[←hp]
 refine zh [(3,_),(6,_)] (fun nn E H=> ∃(k:Nat),(k≤m)∧nn=m-k∧E= [(7,.val (.int .i64 ((64*k:Nat):Int)))]∧H= [.blk B1 207 8 (c8 (d0a p k))]) _ (⟨0,by omega,rfl,rfl,rfl⟩) ?_
 rintro nn E H ⟨k,hk,rfl,rfl,rfl⟩
 dsimp only[cA,cN]
 refine zD (zD (zr ?_))
 refine zb ?_
 refine zb ?_
 refine zW ?_
 refine zP (zI (zo ?_))
 refine yk (fun hlt=> ?_) (fun hlt=> ?_)<;>(try simp only[vX]at hlt)
 ·obtain⟨bk,hbk⟩: ∃bk,bk=(p.drop (64*k)).take 64:=⟨_,rfl⟩
  have hbl:bk.length=64:=by rw[hbk,List.length_take,List.length_drop];omega
  have hpart:((a0a p).drop (64*k*1)).take (bk.length*1)=a0a bk:=by rw[g0e rfl rfl,hbl,hbk]
  have hst:d0a p (k+1)=k0X (d0a p k) bk:=by rw[hbk];rfl
  refine yX (zo (zD (xj ?_)))
  refine yw 7 ?_
  simp only[cT,cZ,cD,cO]
  refine vS vM ?_
  refine zG ?_
  refine zG ?_
  refine zG ?_
  refine xk ?_
  refine vS (O.sliceLHm (m:=bk.length) rfl rfl rfl rfl (l:=64*k) (h:=64*k+64) (by omega) (by omega) (by omega) (by omega) (by omega) (by exact hpart)) ?_
  refine vS (xH rfl Tryz.func194 rfl rfl rfl (j0S (d0a p k) bk hbl)) ?_
  refine wZ ?_
  simp only[a0f,cN,cA,cP]
  refine yQ 0 (zI (xz (zo (zr ?_))))
  refine zb ?_
  refine zA ?_
  refine zc (zI ?_)
  rw[←hst,show((64*k:Nat):Int)+64=((64*(k+1):Nat):Int) by omega]
  refine zq _ _ _ (by omega) (⟨k+1,by omega,rfl,rfl,rfl⟩)
 obtain rfl:k=m:=by omega
 have hsh:=s0Z b hp hm
 generalize d0a p k=hf at*
 refine wb ?_
 refine xY ?_
 refine x3 ?_
 refine xx (zo (zD (zr ?_)))
 refine zc (zI (zo (zD (zD (zr ?_)))))
 refine vT vM ?_
 refine zb (zI (zo (xj ?_)))
 refine AW.g ?_
 refine G.nilRow 5 1 ?_
 refine AW.u ?_
 refine zh [(37,_)] (fun nn E H=> ∃(i:Nat) (V:Value),(i≤8)∧(V.oneCell'=true)∧nn=8-i∧E= [(8,.val V),(38,.val (.int .i64 (i:Int)))]∧H= [.row V 5 1 (e0R hf i).length (a0a (e0R hf i))]) _ (⟨0,_,by omega,rfl,rfl,rfl,rfl⟩) ?_
 rintro nn E H ⟨i,V,hi,hV,rfl,rfl,rfl⟩
 dsimp only[cA,cN]
 have hol:=d0S hf i
 refine zD (zr ?_)
 refine zP (zI (zo (zD ?_)))
 refine yk (fun hlt2=> ?_) (fun hlt2=> ?_)<;>(try simp only[vX]at hlt2)
 ·have hg2: ∀j,j=i→(c8 hf)[j]? =some (.val (e32 (h8 hf i))):=fun j hj=>q0A hf (by omega) hj
  have hgu:a0a (e0R hf i)++[.val (.int .u8 (((h8 hf i)>>>UInt32.ofNat 24).toUInt8.toNat:Int)),.val (.int .u8 (((h8 hf i)>>>UInt32.ofNat 16).toUInt8.toNat:Int)),.val (.int .u8 (((h8 hf i)>>>UInt32.ofNat 8).toUInt8.toNat:Int)),.val (.int .u8 ((h8 hf i).toUInt8.toNat:Int))]=a0a (e0R hf (i+1)):=by
   rw[g0L];simp[a0a,w4]
  have hgl:(e0R hf (i+1)).length=(e0R hf i).length+4:=by rw[d0S,d0S];omega
  refine yX (zo (zD (xj (zD (zr ?_)))))
  refine vT (O.index1 rfl rfl rfl ⟨(by omega),(by omega)⟩ (by exact hg2 _ (by omega))) ?_
  refine zc (zI (zo (zr ?_)))
  refine zb ?_
  refine zb ?_
  refine vT (O.shr rfl rfl rfl (by omega) (g0A (n:=24) rfl (by decide))) ?_
  refine vT (O.conv rfl rfl e0a) ?_
  refine zb ?_
  refine vT (O.shr rfl rfl rfl (by omega) (g0A (n:=16) rfl (by decide))) ?_
  refine vT (O.conv rfl rfl e0a) ?_
  refine zb ?_
  refine vT (O.shr rfl rfl rfl (by omega) (g0A (n:=8) rfl (by decide))) ?_
  refine vT (O.conv rfl rfl e0a) ?_
  refine zb ?_
  refine vT (O.conv rfl rfl e0a) ?_
  refine y6 ?_
  intro B2
  refine AO.g ?_
  refine yc 0 53 ?_
  refine wd 53 ?_
  refine AO.u ?_
  dsimp only[List.eraseIdx]
  refine AO.append' (i:=0) rfl rfl rfl rfl (by rfl) (by rfl) rfl rfl rfl (by exact SrcA.ro TyD.ax (by rfl) (lB rfl)) (by rfl) (by(unfold maxLen;omega)) (by omega) (by(dsimp only[List.set,List.append,cA,cN,AV.cells,a0d,List.take,List.drop,Nat.reduceAdd];done)) (fun _=>by(dsimp only[List.set];done)) ?_
  intro V3 hV3
  refine zc (zI (xz (zo (zr ?_))))
  refine zA ?_
  refine zb (zI ?_)
  rw[show a0a (e0R hf i)++_=_ from hgu,←hgl]
  refine zq _ _ _ (by omega) (⟨i+1,_,by omega,‹_›,rfl,rfl,rfl⟩)
 obtain rfl:i=8:=by omega
 rw[n0f,hsh]
 refine wb ?_
 refine xY ?_
 refine x3 ?_
 refine xx (zo (zD (zr ?_)))
 refine zb ?_
 refine zc (zI (zo (xc ?_)))
 refine AQ.g ?_
 refine yf 0 [2] ?_
 refine AQ.u ?_
 try dsimp only[List.map,List.eraseIdx,cA,cN]
 refine yE
theorem p0L (l:List UInt8)(hl:l.length≤1000000):Sp Tryz.prog 69 [roB l] [] (b0h 5 1 l.length (a0a l)):=by
 refine yN Tryz.func69 _ Tryz.ntmps69 (fun w0 R0=> ?_)
 refine zD (zr ?_)
 refine zc (zI (zo (zD (zr ?_))))
 refine zb ?_
 refine yD ?_
 intro V1 hV1
 refine zc (zI (zo (xc ?_)))
 refine vu rfl rfl ⟨_,by repeat(first|exact List.Sublist.slnil|refine List.Sublist.cons_cons _ ?_),List.Perm.refl _⟩ (⟨_,rfl,‹_›,rfl⟩)
theorem l0O (l:List UInt8)(hl:l.length≤1000000):Sp Tryz.prog 108 [roB l] [] (b0h 5 1 l.length (a0a l)):=by
 refine yN Tryz.func108 _ Tryz.ntmps108 (fun w0 R0=> ?_)
 refine zD (zr ?_)
 refine zc (zI (zo (zD (zr ?_))))
 refine zb ?_
 refine yD ?_
 intro V1 hV1
 refine zc (zI (zo (xc ?_)))
 refine vu rfl rfl ⟨_,by repeat(first|exact List.Sublist.slnil|refine List.Sublist.cons_cons _ ?_),List.Perm.refl _⟩ (⟨_,rfl,‹_›,rfl⟩)
theorem k0H (c id:List UInt8)(piv:Int)(q:Nat):(if q=0 then c.getD 0 0^^^u8 (id.length:Int)else c.getD q 0)=nF c id piv 0 0 q:=by
 unfold nF
 rw[if_neg (show ¬(13-0≤q∧q<13) by omega),if_neg (show ¬(8-id.length≤q∧q<8-id.length+0) by omega)]
 by_cases h:q=0
 ·subst h;simp
 simp[h]
theorem g0X {c:List UInt8}(h:c.length=13):a0a c=arB 13 (fun q=>c.getD q 0):=by
 rw[arB]
 congr 1
 apply List.ext_getElem
 ·rw[a0G,h]
 intro i h1 h2
 simp[fnB,h1]
theorem m0v {piv:Int}{i:Nat}{z:Int}(hz:z=8*(i:Int))(hi:i<5):piv.fdiv (2^ (min z.toNat IntKind.i64.bits))=piv/2^ (8*i):=by
 subst hz
 have e:min (8*(i:Int)).toNat IntKind.i64.bits=8*i:=by
  show min _ 64=_
  omega
 rw[e,Int.fdiv_eq_ediv_of_nonneg _ (by exact Int.le_of_lt (Int.pow_pos (by omega)))]
theorem k0F {c id:List UInt8}{piv:Int}(h:c.length≠13∨7<id.length):b0z c id piv=([],1):=if_pos h
theorem k0E {c id:List UInt8}{piv:Int}(h: ¬(c.length≠13∨7<id.length))(h2:piv<0∨1099511627775<piv):b0z c id piv=([],8):=(if_neg h).trans (if_pos h2)
theorem h0A {c id:List UInt8}{piv:Int}(h: ¬(c.length≠13∨7<id.length))(h2: ¬(piv<0∨1099511627775<piv)):b0z c id piv=(k0G c id piv,0):=(if_neg h).trans (if_neg h2)
abbrev s0A (r:List UInt8×Int):AV:= .tup [roB r.1,.val (.int .i64 r.2)]
theorem d0N (c id:List UInt8)(piv:Int)(hcl:c.length≤1000000):Sp Tryz.prog 66 [roB c,roB id,.val (.int .i64 piv)] [] (Is (s0A (b0z c id piv))):=by
 refine yN Tryz.func66 _ Tryz.ntmps66 (fun w0 R0=> ?_)
 refine zD (zr ?_)
 refine zc ?_
 refine zc (zI (zo (zD (zD (zr ?_)))))
 refine zb ?_
 refine zW ?_
 refine y1 ?_
 refine zb ?_
 refine yt ?_
 refine yb 15 ?_
 refine yp 16 ?_
 refine zE (zI (zo ?_))
 refine yk (fun h1=> ?_) (fun h1=> ?_)<;>(try simp only[vX]at h1)
 ·rw[k0F (by omega)]
  refine zD (zr ?_)
  refine zc ?_
  refine zc (zI (zo (xc (xr ?_))))
  refine x8 yJ yq (⟨rfl,rfl⟩)
 have hc:c.length=13:=by omega
 have hid:id.length≤7:=by omega
 refine yX (zo (zD (zD (zr ?_))))
 refine zb ?_
 refine zP ?_
 refine zb ?_
 refine yt ?_
 refine yp 22 ?_
 refine zE (zI (zo ?_))
 refine yk (fun h2=> ?_) (fun h2=> ?_)<;>(try simp only[vX]at h2)
 ·rw[k0E (by omega) (by omega)]
  refine zD (zr ?_)
  refine zc ?_
  refine zc (zI (zo (xc (xr ?_))))
  refine x8 yJ yq (⟨rfl,rfl⟩)
 rw[h0A (by omega) (by omega)]
 have hb0:=g0X hc
 have hst0: ∀j,j=0→a0d (arB 13 (fun q=>c.getD q 0)) j [.val (.int .u8 (((c.getD 0 0)^^^u8 (id.length:Int)).toNat:Int))]=arB 13 (nF c id piv 0 0):=fun j hj=>by
  rw[a0M (by omega) _ hj]
  exact a0c fun q _=>k0H c id piv q
 have hge0: ∀j,j=0→(arB 13 (fun q=>c.getD q 0))[j]? =some (.val (.int .u8 (((c.getD 0 0)).toNat:Int))):=fun j hj=>a0o (by omega) hj
 have hal: ∀f,(arB 13 f).length=13:=fun f=>a0b _ _
 have hv0: ∀f q,q<13→(arB 13 f)[q]? =some (.val (.int .u8 ((f q).toNat:Int))):=fun f q hq=>a0o hq rfl
 refine yX (zo (zD (zr ?_)))
 refine zb ?_
 refine vV (xH rfl Tryz.func69 rfl rfl rfl (p0L _ (by omega))) ?_
 intro V1 hV1
 refine zc ?_
 rw[hb0,hc]
 refine AO.g ?_
 refine G.openRow 0 rfl (by omega) (fun b8 cap8 hc1 hc2 hxs hVe=> ?_)
 subst hVe
 dsimp only[List.set]
 refine AO.u (zI (zo (zD (zr ?_))))
 refine zb ?_
 refine vn ?_
 refine vT (O.load rfl rfl (by repeat(exact List.Mem.head _)) (by exact hge0 _ (by omega))) ?_
 refine zb ?_
 refine zW ?_
 refine xa ?_
 refine vF ?_
 refine vn ?_
 refine yM 0 rfl rfl rfl rfl rfl rfl (by rfl) (by rfl) (Nat.ble_eq_true_of_le (by rw[hal];omega)) (by exact hst0 _ (by omega)) (zI (zo (zD (zD (zr ?_)))))
 refine zb ?_
 refine zW ?_
 refine zb (zI (zo (xj ?_)))
 refine zh [(1,_),(2,_),(8,_),(36,_)] (fun nn E H=> ∃(i:Nat),(i≤id.length)∧nn=id.length-i∧E= [(37,.val (.int .i64 (i:Int)))]∧H= [.blk b8 5 (cap8*1) (arB 13 (nF c id piv i 0))]) _ (⟨0,by omega,rfl,rfl,rfl⟩) ?_
 rintro nn E H ⟨i,hi,rfl,rfl,rfl⟩
 dsimp only[cA,cN]
 refine zD (zr ?_)
 refine zP (zI (zo (zD ?_)))
 refine yk (fun h3=> ?_) (fun h3=> ?_)<;>(try simp only[vX]at h3)
 ·have hil:i<id.length:=by omega
  have hge: ∀j,j=8-id.length+i→(arB 13 (nF c id piv i 0))[j]? =some (.val (.int .u8 ((nF c id piv i 0 (8-id.length+i)).toNat:Int))):=fun j hj=>a0o (by omega) hj
  have hst: ∀j,j=8-id.length+i→a0d (arB 13 (nF c id piv i 0)) j [.val (.int .u8 ((nF c id piv i 0 (8-id.length+i)^^^bt id i).toNat:Int))]=arB 13 (nF c id piv (i+1) 0):=fun j hj=>by
   rw[a0M (by omega) _ hj]
   exact a0c fun q _=>t0B hid hil q
  refine yX (zo (zD (xj (zD (zr ?_)))))
  refine zb ?_
  refine zc (zI (zo ?_))
  refine yw 14 ?_
  simp only[cT,cZ,cD,cO]
  refine zG ?_
  refine zG ?_
  refine vS (xW rfl rfl) ?_
  refine xT ?_
  refine zG ?_
  refine xk ?_
  refine wV ?_
  refine vS (O.load rfl rfl (by repeat(exact List.Mem.head _)) (by exact hge _ (by omega))) ?_
  refine zG ?_
  refine zG ?_
  refine xn ?_
  refine vS (O.loadR rfl rfl (by exact b0d hil (by omega))) ?_
  refine wm ?_
  refine wV ?_
  refine wZ ?_
  simp only[a0f,cN,cA,cP]
  refine yM 0 rfl rfl rfl rfl rfl rfl (by rfl) (by rfl) (Nat.ble_eq_true_of_le (by rw[hal];omega)) (by exact hst _ (by omega)) (zI (xz (zo (zr ?_))))
  refine zA ?_
  refine zb (zI ?_)
  refine zq _ _ _ (by omega) (⟨i+1,by omega,rfl,rfl,rfl⟩)
 obtain rfl:i=id.length:=by omega
 refine wb ?_
 refine xY ?_
 refine x3 ?_
 refine xx (zo (zD (zD (zr ?_))))
 refine zc (zI (zo (xj ?_)))
 refine zh [(2,_),(8,_)] (fun nn E H=> ∃(i:Nat),(i≤5)∧nn=5-i∧E= [(10,.val (.int .i64 (i:Int)))]∧H= [.blk b8 5 (cap8*1) (arB 13 (nF c id piv id.length i))]) _ (⟨0,by omega,rfl,rfl,rfl⟩) ?_
 rintro nn E H ⟨i,hi,rfl,rfl,rfl⟩
 dsimp only[cA,cN]
 refine zD (zD (zr ?_))
 refine zb ?_
 refine zP (zI (zo ?_))
 refine yk (fun h4=> ?_) (fun h4=> ?_)<;>(try simp only[vX]at h4)
 ·have hge: ∀j,j=12-i→(arB 13 (nF c id piv id.length i))[j]? =some (.val (.int .u8 ((nF c id piv id.length i (12-i)).toNat:Int))):=fun j hj=>a0o (by omega) hj
  have hst: ∀j,j=12-i→a0d (arB 13 (nF c id piv id.length i)) j [.val (.int .u8 ((nF c id piv id.length i (12-i)^^^u8 (piv/2^ (8*i))).toNat:Int))]=arB 13 (nF c id piv id.length (i+1)):=fun j hj=>by
   rw[a0M (by omega) _ hj]
   exact a0c fun q _=>q0l (by omega) q
  refine yX (zo (zD (xj ?_)))
  refine yw 12 ?_
  simp only[cT,cZ,cD,cO]
  refine zG ?_
  refine zG ?_
  refine xT ?_
  refine wV ?_
  refine vS (O.load rfl rfl (by repeat(exact List.Mem.head _)) (by exact hge _ (by omega))) ?_
  refine zG ?_
  refine zG ?_
  refine xt ?_
  refine vS (O.shr rfl rfl rfl (by omega) (m0v (by rfl) (by omega))) ?_
  refine vS (O.conv rfl rfl c0Q) ?_
  refine wm ?_
  refine wV ?_
  refine wZ ?_
  simp only[a0f,cN,cA,cP]
  refine yM 0 rfl rfl rfl rfl rfl rfl (by rfl) (by rfl) (Nat.ble_eq_true_of_le (by rw[hal];omega)) (by exact hst _ (by omega)) (zI (xz (zo (zr ?_))))
  refine zb ?_
  refine zA ?_
  refine zc (zI ?_)
  refine zq _ _ _ (by omega) (⟨i+1,by omega,rfl,rfl,rfl⟩)
 obtain rfl:i=5:=by omega
 refine wb ?_
 refine xY ?_
 refine x3 ?_
 refine xx (zo (zD (zr ?_)))
 refine zb ?_
 refine zc ?_
 refine zc (zI (zo (xc ?_)))
 refine AQ.g ?_
 refine G.closeRow (b:=b8) (sz:=1) (n:=13) (cap:=cap8) 0 rfl (hal _) rfl hc1 hc2 ?_
 refine AQ.u ?_
 dsimp only[List.set]
 refine AQ.g ?_
 refine yf 0 [6] ?_
 refine AQ.u ?_
 try dsimp only[List.map,List.eraseIdx,cA,cN]
 refine AQ.ret2 rfl rfl rfl nS (⟨by rw[s0A,k0G,b0E];rfl,rfl⟩)
theorem h0z (c id:List UInt8)(piv:Int)(hcl:c.length≤1000000):Sp Tryz.prog 59 [roB c,roB id,.val (.int .i64 piv)] [] (Is (s0A (b0z c id piv))):=by
 refine yN Tryz.func59 _ Tryz.ntmps59 (fun w0 R0=> ?_)
 refine zD (zr ?_)
 refine zc ?_
 refine zc (zI (zo (zD (zD (zr ?_)))))
 refine zb ?_
 refine zW ?_
 refine y1 ?_
 refine zb ?_
 refine yt ?_
 refine yb 16 ?_
 refine yp 17 ?_
 refine zE (zI (zo ?_))
 refine yk (fun h1=> ?_) (fun h1=> ?_)<;>(try simp only[vX]at h1)
 ·rw[k0F (by omega)]
  refine zD (zr ?_)
  refine zc ?_
  refine zc (zI (zo (xc (xr ?_))))
  refine x8 yJ yq (⟨rfl,rfl⟩)
 have hc:c.length=13:=by omega
 have hid:id.length≤7:=by omega
 refine yX (zo (zD (zD (zr ?_))))
 refine zb ?_
 refine zP ?_
 refine zb ?_
 refine yt ?_
 refine yp 23 ?_
 refine zE (zI (zo ?_))
 refine yk (fun h2=> ?_) (fun h2=> ?_)<;>(try simp only[vX]at h2)
 ·rw[k0E (by omega) (by omega)]
  refine zD (zr ?_)
  refine zc ?_
  refine zc (zI (zo (xc (xr ?_))))
  refine x8 yJ yq (⟨rfl,rfl⟩)
 rw[h0A (by omega) (by omega)]
 have hb0:=g0X hc
 have hst0: ∀j,j=0→a0d (arB 13 (fun q=>c.getD q 0)) j [.val (.int .u8 (((c.getD 0 0)^^^u8 (id.length:Int)).toNat:Int))]=arB 13 (nF c id piv 0 0):=fun j hj=>by
  rw[a0M (by omega) _ hj]
  exact a0c fun q _=>k0H c id piv q
 have hge0: ∀j,j=0→(arB 13 (fun q=>c.getD q 0))[j]? =some (.val (.int .u8 (((c.getD 0 0)).toNat:Int))):=fun j hj=>a0o (by omega) hj
 have hal: ∀f,(arB 13 f).length=13:=fun f=>a0b _ _
 have hv0: ∀f q,q<13→(arB 13 f)[q]? =some (.val (.int .u8 ((f q).toNat:Int))):=fun f q hq=>a0o hq rfl
 refine yX (zo (zD (zr ?_)))
 refine zb ?_
 refine vV (xH rfl Tryz.func108 rfl rfl rfl (l0O _ (by omega))) ?_
 intro V1 hV1
 refine zc ?_
 rw[hb0,hc]
 refine AO.g ?_
 refine G.openRow 0 rfl (by omega) (fun b8 cap8 hc1 hc2 hxs hVe=> ?_)
 subst hVe
 dsimp only[List.set]
 refine AO.u (zI (zo (zD (zr ?_))))
 refine zb ?_
 refine vn ?_
 refine vT (O.load rfl rfl (by repeat(exact List.Mem.head _)) (by exact hge0 _ (by omega))) ?_
 refine zb ?_
 refine zW ?_
 refine xa ?_
 refine vF ?_
 refine vn ?_
 refine yM 0 rfl rfl rfl rfl rfl rfl (by rfl) (by rfl) (Nat.ble_eq_true_of_le (by rw[hal];omega)) (by exact hst0 _ (by omega)) (zI (zo (zD (zD (zr ?_)))))
 refine zb ?_
 refine zW ?_
 refine zb (zI (zo (xj ?_)))
 refine zh [(1,_),(2,_),(8,_),(36,_),(37,_)] (fun nn E H=> ∃(i:Nat),(i≤id.length)∧nn=id.length-i∧E= [(38,.val (.int .i64 (i:Int)))]∧H= [.blk b8 5 (cap8*1) (arB 13 (nF c id piv i 0))]) _ (⟨0,by omega,rfl,rfl,rfl⟩) ?_
 rintro nn E H ⟨i,hi,rfl,rfl,rfl⟩
 dsimp only[cA,cN]
 refine zD (zr ?_)
 refine zP (zI (zo (zD ?_)))
 refine yk (fun h3=> ?_) (fun h3=> ?_)<;>(try simp only[vX]at h3)
 ·have hil:i<id.length:=by omega
  have hge: ∀j,j=8-id.length+i→(arB 13 (nF c id piv i 0))[j]? =some (.val (.int .u8 ((nF c id piv i 0 (8-id.length+i)).toNat:Int))):=fun j hj=>a0o (by omega) hj
  have hst: ∀j,j=8-id.length+i→a0d (arB 13 (nF c id piv i 0)) j [.val (.int .u8 ((nF c id piv i 0 (8-id.length+i)^^^bt id i).toNat:Int))]=arB 13 (nF c id piv (i+1) 0):=fun j hj=>by
   rw[a0M (by omega) _ hj]
   exact a0c fun q _=>t0B hid hil q
  refine yX (zo (zD (xj (zD (zr ?_)))))
  refine zb ?_
  refine z8 ?_
  refine vT (O.loadR rfl rfl (by exact b0d hil (by omega))) ?_
  refine zc ?_
  refine zc (zI (zo (zr ?_)))
  refine zb ?_
  refine zb ?_
  refine zW ?_
  refine yK ?_
  refine zb ?_
  refine zA ?_
  refine vn ?_
  refine vT (O.load rfl rfl (by repeat(exact List.Mem.head _)) (by exact hge _ (by omega))) ?_
  refine zb ?_
  refine vF ?_
  refine vn ?_
  refine yM 0 rfl rfl rfl rfl rfl rfl (by rfl) (by rfl) (Nat.ble_eq_true_of_le (by rw[hal];omega)) (by exact hst _ (by omega)) (zI (xz (zo (zr ?_))))
  refine zA ?_
  refine zb (zI ?_)
  refine zq _ _ _ (by omega) (⟨i+1,by omega,rfl,rfl,rfl⟩)
 obtain rfl:i=id.length:=by omega
 refine wb ?_
 refine xY ?_
 refine x3 ?_
 refine xx (zo (zD (zD (zr ?_))))
 refine zc (zI (zo (xj ?_)))
 refine zh [(2,_),(8,_)] (fun nn E H=> ∃(i:Nat),(i≤5)∧nn=5-i∧E= [(11,.val (.int .i64 (i:Int)))]∧H= [.blk b8 5 (cap8*1) (arB 13 (nF c id piv id.length i))]) _ (⟨0,by omega,rfl,rfl,rfl⟩) ?_
 rintro nn E H ⟨i,hi,rfl,rfl,rfl⟩
 dsimp only[cA,cN]
 refine zD (zD (zr ?_))
 refine zb ?_
 refine zP (zI (zo ?_))
 refine yk (fun h4=> ?_) (fun h4=> ?_)<;>(try simp only[vX]at h4)
 ·have hge: ∀j,j=12-i→(arB 13 (nF c id piv id.length i))[j]? =some (.val (.int .u8 ((nF c id piv id.length i (12-i)).toNat:Int))):=fun j hj=>a0o (by omega) hj
  have hst: ∀j,j=12-i→a0d (arB 13 (nF c id piv id.length i)) j [.val (.int .u8 ((nF c id piv id.length i (12-i)^^^u8 (piv/2^ (8*i))).toNat:Int))]=arB 13 (nF c id piv id.length (i+1)):=fun j hj=>by
   rw[a0M (by omega) _ hj]
   exact a0c fun q _=>q0l (by omega) q
  refine yX (zo (zD (xj ?_)))
  refine yw 12 ?_
  simp only[cT,cZ,cD,cO]
  refine zG ?_
  refine zG ?_
  refine xT ?_
  refine wV ?_
  refine vS (O.load rfl rfl (by repeat(exact List.Mem.head _)) (by exact hge _ (by omega))) ?_
  refine zG ?_
  refine zG ?_
  refine xt ?_
  refine vS (O.shr rfl rfl rfl (by omega) (m0v (by rfl) (by omega))) ?_
  refine vS (O.conv rfl rfl c0Q) ?_
  refine wm ?_
  refine wV ?_
  refine wZ ?_
  simp only[a0f,cN,cA,cP]
  refine yM 0 rfl rfl rfl rfl rfl rfl (by rfl) (by rfl) (Nat.ble_eq_true_of_le (by rw[hal];omega)) (by exact hst _ (by omega)) (zI (xz (zo (zr ?_))))
  refine zb ?_
  refine zA ?_
  refine zc (zI ?_)
  refine zq _ _ _ (by omega) (⟨i+1,by omega,rfl,rfl,rfl⟩)
 obtain rfl:i=5:=by omega
 refine wb ?_
 refine xY ?_
 refine x3 ?_
 refine xx (zo (zD (zr ?_)))
 refine zb ?_
 refine zc ?_
 refine zc (zI (zo (xc ?_)))
 refine AQ.g ?_
 refine G.closeRow (b:=b8) (sz:=1) (n:=13) (cap:=cap8) 0 rfl (hal _) rfl hc1 hc2 ?_
 refine AQ.u ?_
 dsimp only[List.set]
 refine AQ.g ?_
 refine yf 0 [6] ?_
 refine AQ.u ?_
 try dsimp only[List.map,List.eraseIdx,cA,cN]
 refine AQ.ret2 rfl rfl rfl nS (⟨by rw[s0A,k0G,b0E];rfl,rfl⟩)
def ext (n:Int):Int×List UInt8:=if n<13 then(n,[])else if n<269 then(13,[u8 (n-13)])else(14,[u8 ((n-269)/256),u8 (n-269)])
theorem c0f (n:Int)(h:0≤n):0≤(ext n).1∧(ext n).1≤14:=by unfold ext;(repeat' split)<;>simp<;>omega
theorem e0A (n:Int):(ext n).2.length≤2:=by unfold ext;(repeat' split)<;>simp
def hdr (d n:Int):List UInt8:=u8 (16*(ext d).1+(ext n).1)::((ext d).2++(ext n).2)
theorem n0E (d n:Int):(hdr d n).length≤5:=by
 have:=e0A d
 have:=e0A n
 simp only[hdr,cL,cH];omega
def g0H:Int→List Opt→List UInt8
 |_,[]=> []
 |l,o::os=>hdr (o.num-l) o.val.length++o.val++g0H o.num os
def a0N:Int→List Opt→Int
 |l,[]=>l
 |_,o::os=>a0N o.num os
theorem i0i (o:Opt): ∀(l:Int) (os:List Opt),g0H l (os++[o])=g0H l os++(hdr (o.num-a0N l os) o.val.length++o.val)
 |l,[]=>by simp[g0H,a0N]
 |l,p::os=>by simp[g0H,a0N,i0i o p.num os]
theorem b0j (o:Opt): ∀(l:Int) (os:List Opt),a0N l (os++[o])=o.num
 |l,[]=>rfl
 |l,p::os=>b0j o p.num os
def AscO:Int→List Opt→Prop
 |_,[]=>True
 |l,o::os=>l≤o.num∧o.num≤65535∧(o.val.length:Int)≤1034∧AscO o.num os
instance AscO.dec: ∀(l:Int) (os:List Opt),Decidable (AscO l os)
 |_,[]=>isTrue trivial
 |l,o::os=>by
  unfold AscO
  have:=AscO.dec o.num os
  infer_instance
theorem e0f (o:Opt): ∀(l:Int) (os:List Opt),AscO l (os++[o])↔AscO l os∧a0N l os≤o.num∧o.num≤65535∧(o.val.length:Int)≤1034
 |l,[]=>by simp[AscO,a0N]
 |l,p::os=>by simp only[cA,AscO,a0N,e0f o p.num os];constructor<;>(rintro h;simp_all)
theorem l0d: ∀{l:Int} {os ps:List Opt},AscO l (os++ps)→AscO l os
 |l,[],ps,h=>trivial
 |l,o::os,ps,h=>⟨h.1,h.2.1,h.2.2.1,l0d h.2.2.2⟩
theorem b0Z {l:Int}{os:List Opt}(h:AscO l os)(k:Nat):AscO l (os.take k):=l0d (ps:=os.drop k) (by rw[List.take_append_drop];exact h)
theorem d0d {l:Int}{os:List Opt}(h:AscO l os){k:Nat}(hk:k<os.length):a0N l (os.take k)≤(oat os k).num∧(oat os k).num≤65535∧((oat os k).val.length:Int)≤1034:=by
 have:=b0Z h (k+1)
 rw[a0g Opt.none hk,e0f]at this
 exact this.2
theorem h0C: ∀{l:Int} {os:List Opt},AscO l os→l≤a0N l os∧(os≠ []→a0N l os≤65535)
 |l,[],h=>⟨Int.le_refl _,fun h=>absurd rfl h⟩
 |l,o::os,h=>by
  have:=h0C h.2.2.2
  refine⟨Int.le_trans h.1 this.1,fun _=> ?_⟩
  cases os with
  |nil=>exact h.2.1
  |cons p os=>exact this.2 (by simp)
theorem d0T {l:Int}{os:List Opt}(h:AscO l os)(hl:l≤65535):l≤a0N l os∧a0N l os≤65535:=by
 refine⟨(h0C h).1,?_⟩
 cases os with
 |nil=>exact hl
 |cons p os=>exact(h0C h).2 (by simp)
theorem h0o: ∀{l:Int} {os:List Opt},AscO l os→(g0H l os).length≤os.length*1039
 |l,[],_=>by simp[g0H]
 |l,o::os,h=>by
  have h1:=h0o h.2.2.2
  have h2:=n0E (o.num-l) o.val.length
  have h3:=h.2.2.1
  simp only[g0H,cH,cL];omega
def f0K (m:Msg):List UInt8:= [u8 (64+16*m.ty+m.tok.length),u8 m.code,u8 (m.id/256),u8 m.id]
def raw (m:Msg):List UInt8:=f0K m++m.tok++g0H 0 m.opts++(if m.pay= []then []else 255::m.pay)
def h0R (c:Int):Prop:=c/32=0∨c/32=2∨c/32=4∨c/32=5
def OkM (m:Msg):Prop:=(0≤m.ty∧m.ty≤3∧0≤m.code∧m.code≤255∧h0R m.code)∧(0≤m.id∧m.id≤65535∧(m.tok.length:Int)≤8∧(m.opts.length:Int)≤32)∧AscO 0 m.opts∧
 (m.code=0→(m.tok.length:Int)+m.opts.length+m.pay.length≤0)∧(m.ty=3→m.code=0)∧(m.pay.length:Int)≤4096
instance (c:Int):Decidable (h0R c):=by unfold h0R;infer_instance
instance (m:Msg):Decidable (OkM m):=by unfold OkM;infer_instance
def ValM (m:Msg):Prop:=OkM m∧((raw m).length:Int)≤4096
instance (m:Msg):Decidable (ValM m):=by unfold ValM;infer_instance
theorem m0U {m:Msg}(h:OkM m):(raw m).length≤100000:=by
 have h1:=h0o h.2.2.1
 have h2:=h.2.1.2.2.1
 have h3:=h.2.1.2.2.2
 have h4:=h.2.2.2.2.2
 have h5:(if m.pay= []then []else(255:UInt8)::m.pay).length≤m.pay.length+1:=by split<;>simp
 simp only[raw,f0K,cH,cL,cE]at h5⊢
 omega
theorem f0Q (n:Int)(hn: -1152921504606846976≤n∧n≤1152921504606846976):Sp Tryz.prog 183 [.val (.int .i64 n)] [] (Is (.tup [.val (.int .i64 (ext n).1),roB (ext n).2])):=by
 refine yN Tryz.func183 _ Tryz.ntmps183 (fun w0 R0=> ?_)
 refine zD (zr ?_)
 refine zc ?_
 refine zc (zI (zo (zD (xj (zD (zr ?_))))))
 refine zb ?_
 refine zP ?_
 refine zc (zI (zo ?_))
 refine yk (fun h=> ?_) (fun h=> ?_)<;>(try simp only[vX]at h)
 ·have e:ext n=(n,[]):=by unfold ext;rw[if_pos h]
  refine zD (zr ?_)
  refine zb ?_
  refine zc ?_
  refine zc (zI (zo (xc ?_)))
  refine wi (xr ?_)
  refine AQ.g ?_
  refine G.nilRo 3 rfl ?_
  refine AQ.u ?_
  try dsimp only[List.map,List.eraseIdx,cA,cN]
  refine AQ.ret2 rfl rfl rfl nS (⟨by rw[e];rfl,rfl⟩)
 refine zD (zr ?_)
 refine zb ?_
 refine zP ?_
 refine zc (zI (zo ?_))
 refine yk (fun h2=> ?_) (fun h2=> ?_)<;>(try simp only[vX]at h2)
 ·have e:ext n=(13,[u8 (n-13)]):=by unfold ext;rw[if_neg (by omega),if_pos h2]
  refine zD (zr ?_)
  refine zb ?_
  refine yK ?_
  refine xa ?_
  refine zQ ?_
  intro B1
  refine zc ?_
  refine zc (zI (zo (xc ?_)))
  refine wi (xr ?_)
  refine AQ.g ?_
  refine G.freezeSl 0 3 rfl rfl ⟨Nat.le_refl _,by unfold maxLen;omega⟩ ?_;refine G.unfull 3 rfl ?_
  refine AQ.u ?_
  try dsimp only[List.map,List.eraseIdx,cA,cN]
  refine AQ.ret2 rfl rfl rfl nS (⟨by rw[e];rfl,rfl⟩)
 have e:ext n=(14,[u8 ((n-269)/256),u8 (n-269)]):=by unfold ext;rw[if_neg (by omega),if_neg (by omega)]
 refine yX (xz (zo (zD (zr ?_))))
 refine zb ?_
 refine yK ?_
 refine vd ?_
 refine xa ?_
 refine zb ?_
 refine yK ?_
 refine xa ?_
 refine zQ ?_
 intro B2
 refine zc ?_
 refine zc (zI (zo (xc ?_)))
 refine AQ.g ?_
 refine G.freezeSl 0 3 rfl rfl ⟨Nat.le_refl _,by unfold maxLen;omega⟩ ?_;refine G.unfull 3 rfl ?_
 refine AQ.u ?_
 try dsimp only[List.map,List.eraseIdx,cA,cN]
 refine AQ.ret2 rfl rfl rfl nS (⟨by rw[e];rfl,rfl⟩)
theorem k0x (n:Int)(hn: -1152921504606846976≤n∧n≤1152921504606846976):Sp Tryz.prog 182 [.val (.int .i64 n)] [] (Is (.tup [.val (.int .u8 ((u8 (ext n).1).toNat:Int)),roB (ext n).2])):=by
 refine yN Tryz.func182 _ Tryz.ntmps182 (fun w0 R0=> ?_)
 refine zD (zr ?_)
 refine zc ?_
 refine zc (zI (zo (zD (xj (zD (zr ?_))))))
 refine zb ?_
 refine zP ?_
 refine zc (zI (zo ?_))
 refine yk (fun h=> ?_) (fun h=> ?_)<;>(try simp only[vX]at h)
 ·have e:ext n=(n,[]):=by unfold ext;rw[if_pos h]
  refine zD (zr ?_)
  refine zb ?_
  refine xa ?_
  refine zc ?_
  refine zc (zI (zo (xc ?_)))
  refine wi (xr ?_)
  refine AQ.g ?_
  refine G.nilRo 3 rfl ?_
  refine AQ.u ?_
  try dsimp only[List.map,List.eraseIdx,cA,cN]
  refine AQ.ret2 rfl rfl rfl nS (⟨by rw[e];rfl,rfl⟩)
 refine zD (zr ?_)
 refine zb ?_
 refine zP ?_
 refine zc (zI (zo ?_))
 refine yk (fun h2=> ?_) (fun h2=> ?_)<;>(try simp only[vX]at h2)
 ·have e:ext n=(13,[u8 (n-13)]):=by unfold ext;rw[if_neg (by omega),if_pos h2]
  refine zD (zr ?_)
  refine zb ?_
  refine yK ?_
  refine xa ?_
  refine zQ ?_
  intro B1
  refine zc ?_
  refine zc (zI (zo (xc ?_)))
  refine wi (xr ?_)
  refine AQ.g ?_
  refine G.freezeSl 0 3 rfl rfl ⟨Nat.le_refl _,by unfold maxLen;omega⟩ ?_;refine G.unfull 3 rfl ?_
  refine AQ.u ?_
  try dsimp only[List.map,List.eraseIdx,cA,cN]
  refine AQ.ret2 rfl rfl rfl nS (⟨by rw[e];rfl,rfl⟩)
 have e:ext n=(14,[u8 ((n-269)/256),u8 (n-269)]):=by unfold ext;rw[if_neg (by omega),if_neg (by omega)]
 refine yX (xz (zo (zD (zr ?_))))
 refine zb ?_
 refine yK ?_
 refine vd ?_
 refine xa ?_
 refine zb ?_
 refine yK ?_
 refine xa ?_
 refine zQ ?_
 intro B2
 refine zc ?_
 refine zc (zI (zo (xc ?_)))
 refine AQ.g ?_
 refine G.freezeSl 0 3 rfl rfl ⟨Nat.le_refl _,by unfold maxLen;omega⟩ ?_;refine G.unfull 3 rfl ?_
 refine AQ.u ?_
 try dsimp only[List.map,List.eraseIdx,cA,cN]
 refine AQ.ret2 rfl rfl rfl nS (⟨by rw[e];rfl,rfl⟩)
theorem k0h (m:Msg):Sp Tryz.prog 162 [a0U m] [] (Is (.val (.bool (decide (OkM m))))):=by
 obtain⟨ty,code,id,tok,opts,pay⟩:=m
 refine yN Tryz.func162 _ Tryz.ntmps162 (fun w0 R0=> ?_)
 refine zD (zr ?_)
 refine ye ?_
 intro B1
 refine zc (zI (zo (zD (zr ?_))))
 refine zt ?_
 refine zy ?_
 refine vT (wz 5 32) ?_
 refine zc (zI (zo (zD (zD (zr ?_)))))
 refine zt ?_
 refine zy ?_
 refine zP ?_
 refine zb ?_
 refine zM ?_
 refine zv 14 ?_
 refine yp 15 ?_
 refine zE ?_
 refine zb ?_
 refine zM ?_
 refine zv 19 ?_
 refine AO.opG rfl rfl rfl (fun hp=>wW 20 rfl (by exact hp) yu) ?_
 refine zE ?_
 refine zb ?_
 refine zM ?_
 refine zv 24 ?_
 refine yp 25 ?_
 refine zE ?_
 refine zb ?_
 refine yt ?_
 refine xS 29 ?_
 refine wP 30 ?_
 refine yt ?_
 refine xS 32 ?_
 refine va 31 ?_
 refine wP 34 ?_
 refine yt ?_
 refine xS 36 ?_
 refine va 35 ?_
 refine wP 38 ?_
 refine yt ?_
 refine xS 40 ?_
 refine va 39 ?_
 refine zE (zI (zo ?_))
 refine yk (fun h=> ?_) (fun h=> ?_)<;>(try simp only[vX]at h)
 ·have e:decide (OkM ⟨ty,code,id,tok,opts,pay⟩)=false:=by
   refine decide_eq_false fun hk=> ?_
   obtain⟨⟨a1,a2,a3,a4,a5⟩, -⟩:=hk
   simp only[h0R]at*
   omega
  refine zD (zr ?_)
  refine zc (zI (zo (xc (xr ?_))))
  refine vu rfl rfl nS (⟨congrArg (fun z=>AV.val (.bool z)) e.symm,rfl⟩)
 refine yX (zo (zD (zD (zr ?_))))
 refine zt ?_
 refine zy ?_
 refine zP ?_
 refine zb ?_
 refine zM ?_
 refine zv 48 ?_
 refine yp 49 ?_
 refine zE ?_
 refine zb ?_
 refine zM ?_
 refine zv 53 ?_
 refine yb 54 ?_
 refine yp 55 ?_
 refine zE ?_
 refine zb ?_
 refine zM ?_
 refine zv 59 ?_
 refine yb 60 ?_
 refine yp 61 ?_
 refine zE (zI (zo ?_))
 refine yk (fun h2=> ?_) (fun h2=> ?_)<;>(try simp only[vX]at h2)
 ·have e:decide (OkM ⟨ty,code,id,tok,opts,pay⟩)=false:=by
   refine decide_eq_false fun hk=> ?_
   obtain⟨-,⟨a1,a2,a3,a4⟩, -⟩:=hk
   simp only at*
   omega
  refine zD (zr ?_)
  refine zc (zI (zo (xc (xr ?_))))
  refine vu rfl rfl nS (⟨congrArg (fun z=>AV.val (.bool z)) e.symm,rfl⟩)
 refine yX (zo (zD (zr ?_)))
 refine zc (zI (zo (zD (zD (zr ?_)))))
 refine zt ?_
 refine zy ?_
 refine zW ?_
 refine zb (zI (zo (xj ?_)))
 refine zh [(1,_),(65,_),(66,_)] (fun nn E H=> ∃(k:Nat),(k≤opts.length)∧(AscO 0 (opts.take k))∧nn=opts.length-k∧E= [(4,.val (.int .i64 (a0N 0 (opts.take k)))),(67,.val (.int .i64 (k:Int)))]∧H= [.blk B1 29 6 [.val (.int .i64 ty),.val (.int .i64 code),.val (.int .i64 id),roB tok,roO opts,roB pay]]) _ (⟨0,by omega,trivial,rfl,rfl,rfl⟩) ?_
 rintro nn E H ⟨k,h1,ha,rfl,rfl,rfl⟩
 dsimp only[cA,cN]
 refine zD (zr ?_)
 refine zP (zI (zo (zD ?_)))
 refine yk (fun h3=> ?_) (fun h3=> ?_)<;>(try simp only[vX]at h3)
 ·have hk:k<opts.length:=by omega
  refine yX (zo (zD (xj (zD (zr ?_)))))
  refine z8 ?_
  refine yU ?_
  refine yg ?_
  intro B2
  refine zp 0 (zI (zo (zD (zD (zr ?_)))))
  refine zt ?_
  refine zy ?_
  refine zb ?_
  refine zP ?_
  refine zb ?_
  refine zM ?_
  refine zv 76 ?_
  refine yp 77 ?_
  refine zE ?_
  refine zb ?_
  refine zM ?_
  refine zv 81 ?_
  refine yb 82 ?_
  refine yp 83 ?_
  refine zE (zI (zo ?_))
  refine yk (fun h4=> ?_) (fun h4=> ?_)<;>(try simp only[vX]at h4)
  ·have e:decide (OkM ⟨ty,code,id,tok,opts,pay⟩)=false:=by
    refine decide_eq_false fun hk'=> ?_
    obtain⟨-, -,a1, -⟩:=hk'
    have:=d0d a1 hk
    simp only at this
    omega
   refine zD (zr ?_)
   refine zc (zI (zo (xc (xr ?_))))
   refine wi (xr ?_)
   refine AQ.loopR ?_
   refine wi (xr ?_)
   refine vu rfl rfl nS (⟨congrArg (fun z=>AV.val (.bool z)) e.symm,rfl⟩)
  have ha2:AscO 0 (opts.take (k+1)):=by
   rw[a0g Opt.none hk,e0f]
   exact⟨ha,h4.1.1,h4.1.2,h4.2⟩
  have hl2:a0N 0 (opts.take (k+1))=(oat opts k).num:=by rw[a0g Opt.none hk,b0j]
  refine yX (zo (zr ?_))
  refine zt ?_
  refine zy ?_
  refine zc (zI (xz (zo (zr ?_))))
  refine zA ?_
  refine zb (zI ?_)
  refine zJ _ _ _ (by omega) (⟨k+1,by omega,ha2,rfl,by rw[hl2],rfl⟩)
 obtain rfl:k=opts.length:=by omega
 rw[List.take_length]at ha
 have hw:(pay.length:Int)≤4096→IntKind.i64.wrap ((tok.length:Int)+opts.length+pay.length)=(tok.length:Int)+opts.length+pay.length:=fun h=>e0h (by omega)
 refine wb ?_
 refine xY ?_
 refine x3 ?_
 refine xx (zo (zD (zD (zr ?_))))
 refine zt ?_
 refine zy ?_
 refine z9 ?_
 refine zb ?_
 refine zM ?_
 refine zv 93 ?_
 refine yb 94 ?_
 refine zM ?_
 refine zv 96 ?_
 refine yb 97 ?_
 refine AO.opG rfl rfl rfl (fun hp=>wW 95 rfl (by exact hp) (wW 98 rfl (by exact hp) zF)) ?_
 refine zM ?_
 refine zv 100 ?_
 refine yb 101 ?_
 refine AO.opG rfl rfl rfl (fun hp=>wW 99 rfl (by exact hp) (wW 102 rfl (by exact hp) (O.add rfl rfl rfl (by rfl)))) ?_
 refine yp 103 ?_
 refine zV (zI (zo ?_))
 refine yk (fun h5=> ?_) (fun h5=> ?_)<;>(try simp only[vX]at h5)
 ·have e:decide (OkM ⟨ty,code,id,tok,opts,pay⟩)=false:=by
   refine decide_eq_false fun hk'=> ?_
   obtain⟨-, -, -,a1, -,a2⟩:=hk'
   simp only at a1 a2
   have h6:=h5.2
   rw[hw a2]at h6
   have:=a1 h5.1
   omega
  refine zD (zr ?_)
  refine zc (zI (zo (xc (xr ?_))))
  refine vu rfl rfl nS (⟨congrArg (fun z=>AV.val (.bool z)) e.symm,rfl⟩)
 refine yX (zo (zD (zr ?_)))
 refine zt ?_
 refine zy ?_
 refine y1 ?_
 refine zb ?_
 refine zM ?_
 refine zv 110 ?_
 refine y8 111 ?_
 refine zE ?_
 refine zb ?_
 refine zM ?_
 refine zv 115 ?_
 refine yb 116 ?_
 refine xF 117 ?_
 refine zV ?_
 refine zc (zI (zo (xc ?_)))
 have e:decide (OkM ⟨ty,code,id,tok,opts,pay⟩)=((ty !=3||code==0)&&decide ((pay.length:Int)≤4096)):=by
  refine g0a ?_
  simp only[OkM,Bool.and_eq_true,Bool.or_eq_true,bne_iff_ne,beq_iff_eq,cQ,ne_eq]
  constructor
  ·rintro⟨-, -, -, -,a1,a2⟩
   refine⟨?_,a2⟩
   by_cases h9:ty=3
   ·exact .inr (a1 h9)
   exact .inl h9
  rintro⟨a1,a2⟩
  refine⟨⟨by omega,by omega,by omega,by omega,?_⟩,⟨by omega,by omega,by omega,by omega⟩,ha,?_,?_,a2⟩
  ·unfold h0R;omega
  ·intro h9
   rcases Int.lt_or_le 0 ((tok.length:Int)+opts.length+pay.length)with h|h
   ·exact absurd h (by have:=h5 h9;rw[hw a2]at this;omega)
   exact h
  intro h9
  rcases a1 with a1|a1
  ·exact absurd h9 a1
  exact a1
 refine vu rfl rfl nS (⟨congrArg (fun z=>AV.val (.bool z)) e.symm,rfl⟩)
def b0v (m:Msg)(k:Nat):List UInt8:=f0K m++m.tok++g0H 0 (m.opts.take k)
theorem d0g {m:Msg}{k:Nat}(h:k<m.opts.length):b0v m (k+1)=b0v m k++(hdr ((oat m.opts k).num-a0N 0 (m.opts.take k)) (oat m.opts k).val.length++(oat m.opts k).val):=by
 rw[b0v,a0g Opt.none h,i0i,b0v];simp
theorem i0h {m:Msg}(h:OkM m)(k:Nat):(b0v m k).length≤12+k*1039:=by
 have h1:=h0o (b0Z h.2.2.1 k)
 have h2:=h.2.1.2.2.1
 simp only[b0v,f0K,cH,cL,cE,List.length_take]at h1⊢
 have:min k m.opts.length*1039≤k*1039:=Nat.mul_le_mul_right _ (Nat.min_le_left _ _)
 omega
theorem m0W (m:Msg):raw m=b0v m m.opts.length++(if m.pay= []then []else 255::m.pay):=by rw[raw,b0v,List.take_length]
theorem i0G (m:Msg)(h:OkM m):Sp Tryz.prog 163 [a0U m] [] (Is (roB (raw m))):=by
 have hlen:=fun k=>i0h h k
 obtain⟨⟨a1,a2,a3,a4,a5⟩,⟨a6,a7,a8,a9⟩,a10, -, -,a11⟩:=h
 refine yN Tryz.func163 _ Tryz.ntmps163 (fun w0 R0=> ?_)
 have hd0a:(b0v m 0).length=4+m.tok.length:=by simp[b0v,f0K,g0H];omega
 have hd0b:a0a (b0v m 0)= .val (.int .u8 ((u8 (64+m.ty*16+m.tok.length)).toNat:Int)):: .val (.int .u8 ((u8 m.code).toNat:Int)):: .val (.int .u8 ((u8 (m.id/256)).toNat:Int)):: .val (.int .u8 ((u8 m.id).toNat:Int))::a0a m.tok:=by
  simp only[b0v,f0K,cZ,g0H,cP,a0O]
  simp[a0a,show m.ty*16=16*m.ty by omega]
 refine zD (zr ?_)
 refine ye ?_
 intro B1
 refine zc (zI (zo (zD (zr ?_))))
 refine zt ?_
 refine zy ?_
 refine vT (O.shlK 4 16 rfl rfl rfl rfl (by rfl) (by exact e0h (by omega))) ?_
 refine vT (O.or_ rfl rfl rfl (n0i 6 (m:=64) (by decide) (by omega) (by omega))) ?_
 refine zt ?_
 refine zy ?_
 refine zW ?_
 refine vT (O.or_ rfl rfl rfl (n0i 4 (m:=16) (by decide) (by omega) (by omega))) ?_
 refine xa ?_
 refine zt ?_
 refine zy ?_
 refine xa ?_
 refine zt ?_
 refine zy ?_
 refine vd ?_
 refine xa ?_
 refine zt ?_
 refine zy ?_
 refine xa ?_
 refine zQ ?_
 intro B2
 refine AO.g ?_
 refine xN B2 4 4 0 rfl rfl rfl (Nat.le_refl _) ?_
 refine AO.u ?_
 dsimp only[List.set]
 refine zc (zI (zo (zD (zr ?_))))
 refine zb ?_
 refine zt ?_
 refine zn ?_
 refine zH 0 ?_
 intro V3 hV3
 refine zc (zI (zo (zD (zr ?_))))
 refine zc (zI (zo (zD (zD (zr ?_)))))
 refine zt ?_
 refine zn ?_
 refine zW ?_
 refine zb (zI (zo (xj ?_)))
 refine zh [(1,_),(36,_),(37,_)] (fun nn E H=> ∃(k:Nat) (V:Value),(k≤m.opts.length)∧(V.oneCell'=true)∧nn=m.opts.length-k∧E= [(3,.val V),(4,.val (.int .i64 (a0N 0 (m.opts.take k)))),(38,.val (.int .i64 (k:Int)))]∧H= [.row V 5 1 (b0v m k).length (a0a (b0v m k)),.blk B1 29 6 [.val (.int .i64 m.ty),.val (.int .i64 m.code),.val (.int .i64 m.id),roB m.tok,roO m.opts,roB m.pay]]) _ (⟨0,V3,by omega,hV3,rfl,rfl,by rw[hd0b,hd0a]⟩) ?_
 rintro nn E H ⟨k,V,h1,hV,rfl,rfl,rfl⟩
 dsimp only[cA,cN]
 have hl0:=hlen k
 refine zD (zr ?_)
 refine zP (zI (zo (zD ?_)))
 refine yk (fun h3=> ?_) (fun h3=> ?_)<;>(try simp only[vX]at h3)
 ·have hk:k<m.opts.length:=by omega
  have hl1:=hlen (k+1)
  have ho:=d0d a10 hk
  have hla:=d0T (b0Z a10 k) (by omega)
  have hd1:=c0f ((oat m.opts k).num-a0N 0 (m.opts.take k)) (by omega)
  have hq1:=c0f ((oat m.opts k).val.length:Int) (by omega)
  have hd2:=e0A ((oat m.opts k).num-a0N 0 (m.opts.take k))
  have hq2:=e0A ((oat m.opts k).val.length:Int)
  have hdu:=a0F (x:=(ext ((oat m.opts k).num-a0N 0 (m.opts.take k))).1) (by omega)
  have hqu:=a0F (x:=(ext ((oat m.opts k).val.length:Int)).1) (by omega)
  have hxu:=a0F (x:=16*(ext ((oat m.opts k).num-a0N 0 (m.opts.take k))).1+(ext ((oat m.opts k).val.length:Int)).1) (by omega)
  have hxv:((u8 (16*(ext ((oat m.opts k).num-a0N 0 (m.opts.take k))).1+(ext ((oat m.opts k).val.length:Int)).1)).toNat:Int)=((u8 (ext ((oat m.opts k).num-a0N 0 (m.opts.take k))).1).toNat:Int)*16+((u8 (ext ((oat m.opts k).val.length:Int)).1).toNat:Int):=by omega
  have hlast:a0N 0 (m.opts.take (k+1))=(oat m.opts k).num:=by rw[a0g Opt.none hk,b0j]
  have hsc:a0a (b0v m (k+1))=a0a (b0v m k)++[.val (.int .u8 (((u8 (ext ((oat m.opts k).num-a0N 0 (m.opts.take k))).1).toNat:Int)*16+((u8 (ext ((oat m.opts k).val.length:Int)).1).toNat:Int)))]++a0a (ext ((oat m.opts k).num-a0N 0 (m.opts.take k))).2++a0a (ext ((oat m.opts k).val.length:Int)).2++a0a (oat m.opts k).val:=by
   rw[d0g hk,hdr]
   simp only[a0O,List.append_assoc,cA,a0a,List.map_cons,List.map_nil,cN,List.map_append,hxv]
  have hsl:(b0v m (k+1)).length=(b0v m k).length+1+(ext ((oat m.opts k).num-a0N 0 (m.opts.take k))).2.length+(ext ((oat m.opts k).val.length:Int)).2.length+(oat m.opts k).val.length:=by
   rw[d0g hk,hdr]
   simp only[cH,cL];omega
  refine yX (zo (zD (xj (zD (zr ?_)))))
  refine z8 ?_
  refine yU ?_
  refine zd ?_
  intro B4
  refine za 0 (zI (zo (zD (zr ?_))))
  refine zt ?_
  refine zy ?_
  refine zb ?_
  refine yK ?_
  refine vT (xH rfl Tryz.func182 rfl rfl rfl (k0x _ ⟨by omega,by omega⟩)) ?_
  refine zb ?_
  refine zO ?_
  refine zO ?_
  refine zc ?_
  refine zc (zI (zo (zD (zr ?_))))
  refine zt ?_
  refine zy ?_
  refine zW ?_
  refine vT (xH rfl Tryz.func182 rfl rfl rfl (k0x _ ⟨by omega,by omega⟩)) ?_
  refine zb ?_
  refine zO ?_
  refine zO ?_
  refine zc ?_
  refine zc (zI (zo (zD ?_)))
  refine AW.regionM [(0,false),(1,false),(2,false),(3,false),(4,false),(5,false),(7,false),(9,false),(11,false),(12,false),(6,true),(8,true),(10,true),(13,true),(14,true)] (by kernel_rfl) (by kernel_rfl) (by exact(by exact c0x 3 1 rfl rfl a0h)) ?_
  dsimp only[List.eraseIdx]
  refine yR ?_
  refine yR ?_
  refine vU rfl (O.shlK 4 16 rfl rfl rfl rfl (by rfl) (by exact wU8 (by omega))) ?_
  refine yR ?_
  refine vU rfl (O.or_ rfl rfl rfl (v0F 4 (m:=16) (by decide) (by omega) (by omega))) ?_
  refine xh ?_
  refine yR ?_
  refine yR ?_
  refine xd ?_
  refine we ?_
  refine xX _ (fun w0 R0=> ?_)
  refine zx 0 ?_
  intro V5 hV5
  refine AM.ok ?_
  dsimp only[a0z]
  refine xX _ (fun w0 R0=> ?_)
  refine zH 0 ?_
  intro V6 hV6
  refine AM.ok ?_
  dsimp only[a0z]
  refine xX _ (fun w0 R0=> ?_)
  refine zH 0 ?_
  intro V7 hV7
  refine AM.ok ?_
  dsimp only[a0z]
  refine xX _ (fun w0 R0=> ?_)
  refine zH 0 ?_
  intro V8 hV8
  refine AM.ok ?_
  dsimp only[a0z]
  refine xX _ (fun w0 R0=> ?_)
  refine zc ?_
  refine AM.ok ?_
  dsimp only[a0z]
  refine vg ?_
  dsimp only[cA,cN]
  refine zo (zr ?_)
  refine zt ?_
  refine zn ?_
  refine zc (zI (xz (zo (zr ?_))))
  refine zA ?_
  refine zb (zI ?_)
  refine xC _ _ _ (by omega) (⟨k+1,_,by omega,‹_›,rfl,by rw[hlast],by rw[hsc,hsl]⟩)
 obtain rfl:k=m.opts.length:=by omega
 have hre:raw m=b0v m m.opts.length++(if m.pay= []then []else 255::m.pay):=m0W m
 refine wb ?_
 refine xY ?_
 refine x3 ?_
 refine xx (zo (zD (zD (zr ?_))))
 refine zt ?_
 refine zn ?_
 refine zW ?_
 refine yS (zI (zo ?_))
 refine yk (fun h5=> ?_) (fun h5=> ?_)<;>(try simp only[vX]at h5)
 ·rw[if_neg (fun e=>by rw[e]at h5;simp at h5)]at hre
  refine AW.regionM [(0,false),(1,false),(3,false),(4,false),(2,true),(5,true),(6,true)] (by kernel_rfl) (by kernel_rfl) (by exact(by exact c0x 3 0 rfl rfl a0h)) ?_
  dsimp only[List.eraseIdx]
  refine yR ?_
  refine xh ?_
  refine xd ?_
  refine we ?_
  refine xX _ (fun w0 R0=> ?_)
  refine zx 0 ?_
  intro V9 hV9
  refine AM.ok ?_
  dsimp only[a0z]
  refine xX _ (fun w0 R0=> ?_)
  refine AO.append' (i:=0) rfl rfl rfl rfl (by rfl) (by rfl) rfl rfl rfl (by exact SrcA.ro TyD.ax (by(simp;done)) (lB rfl)) (by(simp[AV.cells,AV.one, *];done)) (by(unfold maxLen;omega)) (by omega) (by(dsimp only[List.set,List.append,cA,cN,a0r,a0q,a0w,a0d,a0n,AV.cells,List.map,List.map_cons,List.map_nil,List.take,List.drop,Nat.zero_add,Nat.add_zero,Nat.reduceAdd,Nat.reduceMul,Nat.zero_mul,Value.cells,List.toList_toArray,a0p,List.replicate,List.flatten,cP];done)) (fun _=>by(dsimp only[List.set];done)) ?_
  intro V10 hV10
  refine AM.ok ?_
  dsimp only[a0z]
  refine xX _ (fun w0 R0=> ?_)
  refine zc ?_
  refine AM.ok ?_
  dsimp only[a0z]
  refine vg ?_
  dsimp only[cA,cN]
  refine zo (zD (zr ?_))
  refine zb ?_
  refine zc (zI (zo (xc ?_)))
  refine AQ.g ?_
  refine yf 0 [2] ?_
  refine AQ.u ?_
  try dsimp only[List.map,List.eraseIdx,cA,cN]
  refine vu rfl rfl nS (⟨b0l (by rw[hre];simp only[cH,cL];omega) (by rw[hre];simp[a0a]),rfl⟩)
 rw[if_pos (List.eq_nil_of_length_eq_zero (by omega)),cP]at hre
 refine yX (zo (zD (zr ?_)))
 refine zb ?_
 refine zc (zI (zo (xc ?_)))
 refine AQ.g ?_
 refine yf 0 [2] ?_
 refine AQ.u ?_
 try dsimp only[List.map,List.eraseIdx,cA,cN]
 refine vu rfl rfl nS (⟨by rw[hre];rfl,rfl⟩)
theorem m0V (m:Msg)(h:OkM m):Sp Tryz.prog 165 [a0U m] [] (Is (roB (raw m))):=by
 have hlen:=fun k=>i0h h k
 obtain⟨⟨a1,a2,a3,a4,a5⟩,⟨a6,a7,a8,a9⟩,a10, -, -,a11⟩:=h
 refine yN Tryz.func165 _ Tryz.ntmps165 (fun w0 R0=> ?_)
 have hd0a:(b0v m 0).length=4+m.tok.length:=by simp[b0v,f0K,g0H];omega
 have hd0b:a0a (b0v m 0)= .val (.int .u8 ((u8 (64+16*m.ty+m.tok.length)).toNat:Int)):: .val (.int .u8 ((u8 m.code).toNat:Int)):: .val (.int .u8 ((u8 (m.id/256)).toNat:Int)):: .val (.int .u8 ((u8 m.id).toNat:Int))::a0a m.tok:=by
  simp only[b0v,f0K,cZ,g0H,cP,a0O]
  simp[a0a]
 refine zD (zr ?_)
 refine ye ?_
 intro B1
 refine zc (zI (zo (zD (zr ?_))))
 refine zt ?_
 refine zy ?_
 refine wE ?_
 refine zA ?_
 refine zt ?_
 refine zy ?_
 refine zW ?_
 refine zA ?_
 refine xa ?_
 refine zt ?_
 refine zy ?_
 refine xa ?_
 refine zt ?_
 refine zy ?_
 refine vd ?_
 refine xa ?_
 refine zt ?_
 refine zy ?_
 refine xa ?_
 refine zQ ?_
 intro B2
 refine AO.g ?_
 refine xN B2 4 4 0 rfl rfl rfl (Nat.le_refl _) ?_
 refine AO.u ?_
 dsimp only[List.set]
 refine zc (zI (zo (zD (zr ?_))))
 refine zb ?_
 refine zt ?_
 refine zn ?_
 refine zH 0 ?_
 intro V3 hV3
 refine zc (zI (zo (zD (zr ?_))))
 refine zc (zI (zo (zD (zD (zr ?_)))))
 refine zt ?_
 refine zn ?_
 refine zW ?_
 refine zb (zI (zo (xj ?_)))
 refine zh [(1,_),(36,_),(37,_)] (fun nn E H=> ∃(k:Nat) (V:Value),(k≤m.opts.length)∧(V.oneCell'=true)∧nn=m.opts.length-k∧E= [(3,.val V),(4,.val (.int .i64 (a0N 0 (m.opts.take k)))),(38,.val (.int .i64 (k:Int)))]∧H= [.row V 5 1 (b0v m k).length (a0a (b0v m k)),.blk B1 29 6 [.val (.int .i64 m.ty),.val (.int .i64 m.code),.val (.int .i64 m.id),roB m.tok,roO m.opts,roB m.pay]]) _ (⟨0,V3,by omega,hV3,rfl,rfl,by rw[hd0b,hd0a]⟩) ?_
 rintro nn E H ⟨k,V,h1,hV,rfl,rfl,rfl⟩
 dsimp only[cA,cN]
 have hl0:=hlen k
 refine zD (zr ?_)
 refine zP (zI (zo (zD ?_)))
 refine yk (fun h3=> ?_) (fun h3=> ?_)<;>(try simp only[vX]at h3)
 ·have hk:k<m.opts.length:=by omega
  have hl1:=hlen (k+1)
  have ho:=d0d a10 hk
  have hla:=d0T (b0Z a10 k) (by omega)
  have hd1:=c0f ((oat m.opts k).num-a0N 0 (m.opts.take k)) (by omega)
  have hq1:=c0f ((oat m.opts k).val.length:Int) (by omega)
  have hd2:=e0A ((oat m.opts k).num-a0N 0 (m.opts.take k))
  have hq2:=e0A ((oat m.opts k).val.length:Int)
  have hdu:=a0F (x:=(ext ((oat m.opts k).num-a0N 0 (m.opts.take k))).1) (by omega)
  have hqu:=a0F (x:=(ext ((oat m.opts k).val.length:Int)).1) (by omega)
  have hxu:=a0F (x:=16*(ext ((oat m.opts k).num-a0N 0 (m.opts.take k))).1+(ext ((oat m.opts k).val.length:Int)).1) (by omega)
  have hlast:a0N 0 (m.opts.take (k+1))=(oat m.opts k).num:=by rw[a0g Opt.none hk,b0j]
  have hsc:a0a (b0v m (k+1))=a0a (b0v m k)++[.val (.int .u8 ((u8 (16*(ext ((oat m.opts k).num-a0N 0 (m.opts.take k))).1+(ext ((oat m.opts k).val.length:Int)).1)).toNat:Int))]++a0a (ext ((oat m.opts k).num-a0N 0 (m.opts.take k))).2++a0a (ext ((oat m.opts k).val.length:Int)).2++a0a (oat m.opts k).val:=by
   rw[d0g hk,hdr]
   simp only[a0O,List.append_assoc,cA,a0a,List.map_cons,List.map_nil,cN,List.map_append]
  have hsl:(b0v m (k+1)).length=(b0v m k).length+1+(ext ((oat m.opts k).num-a0N 0 (m.opts.take k))).2.length+(ext ((oat m.opts k).val.length:Int)).2.length+(oat m.opts k).val.length:=by
   rw[d0g hk,hdr]
   simp only[cH,cL];omega
  refine yX (zo (zD (xj (zD (zr ?_)))))
  refine z8 ?_
  refine yU ?_
  refine zd ?_
  intro B4
  refine za 0 (zI (zo (zD (zr ?_))))
  refine zt ?_
  refine zy ?_
  refine zb ?_
  refine yK ?_
  refine vT (xH rfl Tryz.func183 rfl rfl rfl (f0Q _ ⟨by omega,by omega⟩)) ?_
  refine zb ?_
  refine zO ?_
  refine zO ?_
  refine zc ?_
  refine zc (zI (zo (zD (zr ?_))))
  refine zt ?_
  refine zy ?_
  refine zW ?_
  refine vT (xH rfl Tryz.func183 rfl rfl rfl (f0Q _ ⟨by omega,by omega⟩)) ?_
  refine zb ?_
  refine zO ?_
  refine zO ?_
  refine zc ?_
  refine zc (zI (zo (zD ?_)))
  refine AW.regionM [(0,false),(1,false),(2,false),(3,false),(4,false),(5,false),(6,false),(8,false),(10,false),(12,false),(13,false),(7,true),(9,true),(11,true),(14,true),(15,true)] (by kernel_rfl) (by kernel_rfl) (by exact(by exact c0x 3 1 rfl rfl a0h)) ?_
  dsimp only[List.eraseIdx]
  refine yR ?_
  refine yR ?_
  refine vU rfl xp ?_
  refine yR ?_
  refine vU rfl zF ?_
  refine vU rfl (O.conv rfl rfl c0Q) ?_
  refine xh ?_
  refine yR ?_
  refine yR ?_
  refine xd ?_
  refine we ?_
  refine xX _ (fun w0 R0=> ?_)
  refine zx 0 ?_
  intro V5 hV5
  refine AM.ok ?_
  dsimp only[a0z]
  refine xX _ (fun w0 R0=> ?_)
  refine zH 0 ?_
  intro V6 hV6
  refine AM.ok ?_
  dsimp only[a0z]
  refine xX _ (fun w0 R0=> ?_)
  refine zH 0 ?_
  intro V7 hV7
  refine AM.ok ?_
  dsimp only[a0z]
  refine xX _ (fun w0 R0=> ?_)
  refine zH 0 ?_
  intro V8 hV8
  refine AM.ok ?_
  dsimp only[a0z]
  refine xX _ (fun w0 R0=> ?_)
  refine zc ?_
  refine AM.ok ?_
  dsimp only[a0z]
  refine vg ?_
  dsimp only[cA,cN]
  refine zo (zr ?_)
  refine zt ?_
  refine zn ?_
  refine zc (zI (xz (zo (zr ?_))))
  refine zA ?_
  refine zb (zI ?_)
  refine xC _ _ _ (by omega) (⟨k+1,_,by omega,‹_›,rfl,by rw[hlast],by rw[hsc,hsl]⟩)
 obtain rfl:k=m.opts.length:=by omega
 have hre:raw m=b0v m m.opts.length++(if m.pay= []then []else 255::m.pay):=m0W m
 refine wb ?_
 refine xY ?_
 refine x3 ?_
 refine xx (zo (zD (zD (zr ?_))))
 refine zt ?_
 refine zn ?_
 refine zW ?_
 refine yS (zI (zo ?_))
 refine yk (fun h5=> ?_) (fun h5=> ?_)<;>(try simp only[vX]at h5)
 ·rw[if_neg (fun e=>by rw[e]at h5;simp at h5)]at hre
  refine AW.regionM [(0,false),(1,false),(3,false),(4,false),(2,true),(5,true),(6,true)] (by kernel_rfl) (by kernel_rfl) (by exact(by exact c0x 3 0 rfl rfl a0h)) ?_
  dsimp only[List.eraseIdx]
  refine yR ?_
  refine xh ?_
  refine xd ?_
  refine we ?_
  refine xX _ (fun w0 R0=> ?_)
  refine zx 0 ?_
  intro V9 hV9
  refine AM.ok ?_
  dsimp only[a0z]
  refine xX _ (fun w0 R0=> ?_)
  refine AO.append' (i:=0) rfl rfl rfl rfl (by rfl) (by rfl) rfl rfl rfl (by exact SrcA.ro TyD.ax (by(simp;done)) (lB rfl)) (by(simp[AV.cells,AV.one, *];done)) (by(unfold maxLen;omega)) (by omega) (by(dsimp only[List.set,List.append,cA,cN,a0r,a0q,a0w,a0d,a0n,AV.cells,List.map,List.map_cons,List.map_nil,List.take,List.drop,Nat.zero_add,Nat.add_zero,Nat.reduceAdd,Nat.reduceMul,Nat.zero_mul,Value.cells,List.toList_toArray,a0p,List.replicate,List.flatten,cP];done)) (fun _=>by(dsimp only[List.set];done)) ?_
  intro V10 hV10
  refine AM.ok ?_
  dsimp only[a0z]
  refine xX _ (fun w0 R0=> ?_)
  refine zc ?_
  refine AM.ok ?_
  dsimp only[a0z]
  refine vg ?_
  dsimp only[cA,cN]
  refine zo (zD (zr ?_))
  refine zb ?_
  refine zc (zI (zo (xc ?_)))
  refine AQ.g ?_
  refine yf 0 [2] ?_
  refine AQ.u ?_
  try dsimp only[List.map,List.eraseIdx,cA,cN]
  refine vu rfl rfl nS (⟨b0l (by rw[hre];simp only[cH,cL];omega) (by rw[hre];simp[a0a]),rfl⟩)
 rw[if_pos (List.eq_nil_of_length_eq_zero (by omega)),cP]at hre
 refine yX (zo (zD (zr ?_)))
 refine zb ?_
 refine zc (zI (zo (xc ?_)))
 refine AQ.g ?_
 refine yf 0 [2] ?_
 refine AQ.u ?_
 try dsimp only[List.map,List.eraseIdx,cA,cN]
 refine vu rfl rfl nS (⟨by rw[hre];rfl,rfl⟩)
def d0X (m:Msg):List UInt8×Int:=if ValM m then(raw m,0)else([],1)
theorem g0S {m:Msg}(h:ValM m):d0X m=(raw m,0):=if_pos h
theorem g0T {m:Msg}(h: ¬ValM m):d0X m=([],1):=if_neg h
theorem n0K (m:Msg):Sp Tryz.prog 119 [a0U m] [] (Is (.tup [roB (d0X m).1,.val (.int .i64 (d0X m).2)])):=by
 refine yN Tryz.func119 _ Tryz.ntmps119 (fun w0 R0=> ?_)
 refine zD (zr ?_)
 refine ye ?_
 intro B1
 refine zc ?_
 refine zc (zI (zo (zD (zD (zr ?_)))))
 refine y3 ?_
 refine vT (xH rfl Tryz.func162 rfl rfl rfl (k0h m)) ?_
 refine xq (zI (zo ?_))
 refine yk (fun h=> ?_) (fun h=> ?_)<;>(try simp only[vX]at h)
 ·have e:d0X m=([],1):=g0T fun hv=>h hv.1
  refine zD (zr ?_)
  refine zc ?_
  refine zc (zI (zo (xc (xr ?_))))
  refine x8 yJ yq (⟨congrArg (fun z:List UInt8×Int=>AV.tup [roB z.1,.val (.int .i64 z.2)]) e.symm,rfl⟩)
 have hm:OkM m:=h
 have hl:=m0U hm
 refine yX (zo (zD (zr ?_)))
 refine y3 ?_
 refine vT (xH rfl Tryz.func163 rfl rfl rfl (i0G m hm)) ?_
 refine zc (zI (zo (zD (zD (zr ?_)))))
 refine zb ?_
 refine zW ?_
 refine yS (zI (zo ?_))
 refine yk (fun h2=> ?_) (fun h2=> ?_)<;>(try simp only[vX]at h2)
 ·have e:d0X m=([],1):=g0T fun hv=>by have:=hv.2;omega
  refine zD (zr ?_)
  refine zc ?_
  refine zc (zI (zo (xc (xr ?_))))
  refine x8 yJ yq (⟨congrArg (fun z:List UInt8×Int=>AV.tup [roB z.1,.val (.int .i64 z.2)]) e.symm,rfl⟩)
 have e:d0X m=(raw m,0):=g0S ⟨hm,by omega⟩
 refine yX (zo (zD (zr ?_)))
 refine zb ?_
 refine zc ?_
 refine zc (zI (zo (xc ?_)))
 refine AQ.ret2 rfl rfl rfl nS (⟨congrArg (fun z:List UInt8×Int=>AV.tup [roB z.1,.val (.int .i64 z.2)]) e.symm,rfl⟩)
theorem s0m {c:Int}(h:0≤c):c.tdiv 32=c/32:=Int.tdiv_eq_ediv_of_nonneg h
theorem f0v (m:Msg):Sp Tryz.prog 164 [a0U m] [] (Is (.val (.bool (decide (ValM m))))):=by
 obtain⟨ty,code,id,tok,opts,pay⟩:=m
 refine yN Tryz.func164 _ Tryz.ntmps164 (fun w0 R0=> ?_)
 refine zD (zr ?_)
 refine ye ?_
 intro B1
 refine zc (zI (zo (zD (zD (zr ?_)))))
 refine zt ?_
 refine zy ?_
 refine zP ?_
 refine zb ?_
 refine zM ?_
 refine zv 11 ?_
 refine yp 12 ?_
 refine zE ?_
 refine zb ?_
 refine zM ?_
 refine zv 16 ?_
 refine AO.opG rfl rfl rfl (fun hp=>wW 17 rfl (by exact hp) yu) ?_
 refine zE ?_
 refine zb ?_
 refine zM ?_
 refine zv 21 ?_
 refine yp 22 ?_
 refine zE ?_
 refine zb ?_
 refine zM ?_
 refine zv 26 ?_
 refine AO.opG rfl rfl rfl (fun hp=>wW 27 rfl (by exact hp) yu) ?_
 refine zE ?_
 refine zb ?_
 refine zM ?_
 refine zv 31 ?_
 refine yp 32 ?_
 refine zE ?_
 refine zb ?_
 refine zM ?_
 refine zv 36 ?_
 refine yb 37 ?_
 refine yp 38 ?_
 refine zE ?_
 refine zb ?_
 refine zM ?_
 refine zv 42 ?_
 refine yb 43 ?_
 refine yp 44 ?_
 refine zE ?_
 refine zb ?_
 refine zM ?_
 refine zv 48 ?_
 refine yb 49 ?_
 refine yp 50 ?_
 refine zE (zI (zo ?_))
 refine yk (fun h=> ?_) (fun h=> ?_)<;>(try simp only[vX]at h)
 ·have e:decide (ValM ⟨ty,code,id,tok,opts,pay⟩)=false:=by
   refine decide_eq_false fun hk=> ?_
   obtain⟨⟨⟨a1,a2,a3,a4,a5⟩,⟨b1,b2,b3,b4⟩, -, -, -,b5⟩, -⟩:=hk
   simp only at*
   omega
  refine zD (zr ?_)
  refine zc (zI (zo (xc (xr ?_))))
  refine vu rfl rfl nS (⟨congrArg (fun z=>AV.val (.bool z)) e.symm,rfl⟩)
 have hq:IntKind.i64.wrap (code.tdiv 32)=code/32:=by rw[s0m (by omega),e0h (by omega)]
 refine yX (zo (zD (zr ?_)))
 refine zt ?_
 refine zy ?_
 refine vT (O.quo rfl rfl rfl (by omega) (by rfl)) ?_
 refine zc (zI (zo (zD (zD (zr ?_)))))
 refine zb ?_
 refine y1 ?_
 refine zb ?_
 refine yt ?_
 refine xS 59 ?_
 refine zV ?_
 refine zb ?_
 refine yt ?_
 refine xS 63 ?_
 refine zV ?_
 refine zb ?_
 refine yt ?_
 refine xS 67 ?_
 refine zV (zI (zo ?_))
 refine yk (fun h2=> ?_) (fun h2=> ?_)<;>(try simp only[vX]at h2)
 ·have e:decide (ValM ⟨ty,code,id,tok,opts,pay⟩)=false:=by
   refine decide_eq_false fun hk=> ?_
   obtain⟨⟨⟨a1,a2,a3,a4,a5⟩, -⟩, -⟩:=hk
   simp only[h0R]at*
   rw[hq]at h2
   omega
  refine zD (zr ?_)
  refine zc (zI (zo (xc (xr ?_))))
  refine vu rfl rfl nS (⟨congrArg (fun z=>AV.val (.bool z)) e.symm,rfl⟩)
 refine yX (zo (zD (zr ?_)))
 refine zc (zI (zo (zD (zD (zr ?_)))))
 refine zt ?_
 refine zy ?_
 refine zW ?_
 refine zb (zI (zo (xj ?_)))
 refine zh [(1,_),(71,_),(72,_)] (fun nn E H=> ∃(k:Nat),(k≤opts.length)∧(AscO 0 (opts.take k))∧nn=opts.length-k∧E= [(4,.val (.int .i64 (a0N 0 (opts.take k)))),(73,.val (.int .i64 (k:Int)))]∧H= [.blk B1 29 6 [.val (.int .i64 ty),.val (.int .i64 code),.val (.int .i64 id),roB tok,roO opts,roB pay]]) _ (⟨0,by omega,trivial,rfl,rfl,rfl⟩) ?_
 rintro nn E H ⟨k,h1,ha,rfl,rfl,rfl⟩
 dsimp only[cA,cN]
 refine zD (zr ?_)
 refine zP (zI (zo (zD ?_)))
 refine yk (fun h3=> ?_) (fun h3=> ?_)<;>(try simp only[vX]at h3)
 ·have hk:k<opts.length:=by omega
  refine yX (zo (zD (xj (zD (zr ?_)))))
  refine z8 ?_
  refine yU ?_
  refine zd ?_
  intro B2
  refine za 0 (zI (zo (zD (zD (zr ?_)))))
  refine zt ?_
  refine zy ?_
  refine zb ?_
  refine zP ?_
  refine zb ?_
  refine zM ?_
  refine zv 82 ?_
  refine yp 83 ?_
  refine zE ?_
  refine zb ?_
  refine zM ?_
  refine zv 87 ?_
  refine yb 88 ?_
  refine yp 89 ?_
  refine zE (zI (zo ?_))
  refine yk (fun h4=> ?_) (fun h4=> ?_)<;>(try simp only[vX]at h4)
  ·have e:decide (ValM ⟨ty,code,id,tok,opts,pay⟩)=false:=by
    refine decide_eq_false fun hk'=> ?_
    obtain⟨⟨-, -,a1, -⟩, -⟩:=hk'
    have:=d0d a1 hk
    simp only at this
    omega
   refine zD (zr ?_)
   refine zc (zI (zo (xc (xr ?_))))
   refine wi (xr ?_)
   refine AQ.loopR ?_
   refine wi (xr ?_)
   refine vu rfl rfl nS (⟨congrArg (fun z=>AV.val (.bool z)) e.symm,rfl⟩)
  have ha2:AscO 0 (opts.take (k+1)):=by
   rw[a0g Opt.none hk,e0f]
   exact⟨ha,h4.1.1,h4.1.2,h4.2⟩
  have hl2:a0N 0 (opts.take (k+1))=(oat opts k).num:=by rw[a0g Opt.none hk,b0j]
  refine yX (zo (zr ?_))
  refine zt ?_
  refine zy ?_
  refine zc (zI (xz (zo (zr ?_))))
  refine zA ?_
  refine zb (zI ?_)
  refine zJ _ _ _ (by omega) (⟨k+1,by omega,ha2,rfl,by rw[hl2],rfl⟩)
 obtain rfl:k=opts.length:=by omega
 rw[List.take_length]at ha
 have hw:IntKind.i64.wrap ((tok.length:Int)+opts.length+pay.length)=(tok.length:Int)+opts.length+pay.length:=e0h (by omega)
 refine wb ?_
 refine xY ?_
 refine x3 ?_
 refine xx (zo (zD (zD (zr ?_))))
 refine zt ?_
 refine zy ?_
 refine z9 ?_
 refine zb ?_
 refine zM ?_
 refine zv 99 ?_
 refine yb 100 ?_
 refine zM ?_
 refine zv 102 ?_
 refine yb 103 ?_
 refine AO.opG rfl rfl rfl (fun hp=>wW 101 rfl (by exact hp) (wW 104 rfl (by exact hp) zF)) ?_
 refine zM ?_
 refine zv 106 ?_
 refine yb 107 ?_
 refine AO.opG rfl rfl rfl (fun hp=>wW 105 rfl (by exact hp) (wW 108 rfl (by exact hp) zF)) ?_
 refine yp 109 ?_
 refine zV ?_
 refine zb ?_
 refine zM ?_
 refine zv 113 ?_
 refine y8 114 ?_
 refine wP 115 ?_
 refine zM ?_
 refine zv 117 ?_
 refine xS 118 ?_
 refine va 116 ?_
 refine zE (zI (zo ?_))
 refine yk (fun h5=> ?_) (fun h5=> ?_)<;>(try simp only[vX]at h5)
 ·have e:decide (ValM ⟨ty,code,id,tok,opts,pay⟩)=false:=by
   refine decide_eq_false fun hk'=> ?_
   obtain⟨⟨-, -, -,a1,a3,a2⟩, -⟩:=hk'
   simp only at a1 a2 a3
   omega
  refine zD (zr ?_)
  refine zc (zI (zo (xc (xr ?_))))
  refine vu rfl rfl nS (⟨congrArg (fun z=>AV.val (.bool z)) e.symm,rfl⟩)
 have hm:OkM ⟨ty,code,id,tok,opts,pay⟩:=by
  refine⟨⟨by simp only;omega,by simp only;omega,by simp only;omega,by simp only;omega,?_⟩,⟨by simp only;omega,by simp only;omega,by simp only;omega,by simp only;omega⟩,ha,?_,?_,by simp only;omega⟩
  ·rw[hq]at h2
   unfold h0R;simp only;omega
  ·simp only;omega
  simp only;omega
 have hl:=m0U hm
 refine yX (zo (zD (zr ?_)))
 refine zB ?_
 refine vT (xH rfl Tryz.func165 rfl rfl rfl (m0V ⟨ty,code,id,tok,opts,pay⟩ hm)) ?_
 refine zW ?_
 refine vN ?_
 refine zc (zI (zo (xc ?_)))
 have e:decide (ValM ⟨ty,code,id,tok,opts,pay⟩)=decide (((raw ⟨ty,code,id,tok,opts,pay⟩).length:Int)≤4096):=g0a (by simp[ValM,hm])
 refine vu rfl rfl nS (⟨congrArg (fun z=>AV.val (.bool z)) e.symm,rfl⟩)
theorem j0m (m:Msg):Sp Tryz.prog 120 [a0U m] [] (Is (.tup [roB (d0X m).1,.val (.int .i64 (d0X m).2)])):=by
 refine yN Tryz.func120 _ Tryz.ntmps120 (fun w0 R0=> ?_)
 refine zD (zr ?_)
 refine ye ?_
 intro B1
 refine zc ?_
 refine zc (zI (zo (zD (zD (zr ?_)))))
 refine zB ?_
 refine vT (xH rfl Tryz.func164 rfl rfl rfl (f0v m)) ?_
 refine xq (zI (zo ?_))
 refine yk (fun h=> ?_) (fun h=> ?_)<;>(try simp only[vX]at h)
 ·have e:d0X m=([],1):=g0T h
  refine zD (zr ?_)
  refine zc ?_
  refine zc (zI (zo (xc (xr ?_))))
  refine x8 yJ yq (⟨congrArg (fun z:List UInt8×Int=>AV.tup [roB z.1,.val (.int .i64 z.2)]) e.symm,rfl⟩)
 have hm:OkM m:=h.1
 have e:d0X m=(raw m,0):=g0S h
 refine yX (zo (zD (zr ?_)))
 refine zB ?_
 refine vT (xH rfl Tryz.func165 rfl rfl rfl (m0V m hm)) ?_
 refine zc ?_
 refine zc (zI (zo (xc ?_)))
 refine AQ.ret2 rfl rfl rfl nS (⟨congrArg (fun z:List UInt8×Int=>AV.tup [roB z.1,.val (.int .i64 z.2)]) e.symm,rfl⟩)
theorem d0l (l:List UInt8)(hl:l.length≤140737488355328):Sp Tryz.prog 138 [roB l] [] (Is (roB l)):=by
 refine yN Tryz.func138 _ Tryz.ntmps138 (fun w0 R0=> ?_)
 refine zD (zr ?_)
 refine zc (zI (zo (zD (zD (zr ?_)))))
 refine zb ?_
 refine AO.opN (O.eqlNil rfl rfl rfl) rfl rfl rfl ?_
 rintro _ _ ⟨c,rfl,rfl,hnil⟩
 simp only[cA,cN]
 refine zI (zo ?_)
 refine yk (fun h=> ?_) (fun h=> ?_)
 ·obtain rfl:l= []:=List.eq_nil_of_length_eq_zero (hnil (by simp[h]))
  refine zD (zr ?_)
  refine zc (zI (zo (xc (xr ?_))))
  refine AQ.g ?_
  refine G.nilRo 2 rfl ?_
  refine AQ.u ?_
  refine yE
 refine yX (zo (zD (zr ?_)))
 refine vV (O.buildSlice0 rfl) ?_
 intro V hV
 refine zb ?_
 refine zH 0 ?_
 intro V hV
 refine zc (zI (zo (xc ?_)))
 refine AQ.g ?_
 refine yH 0 [2] ?_
 refine AQ.u ?_
 dsimp only[List.map,List.eraseIdx,cA,cN]
 refine vu rfl rfl nS (⟨by simp[roB],rfl⟩)
def SmM (m:Msg):Prop:=m.tok.length≤140737488355328∧m.pay.length≤140737488355328∧m.opts.length≤1000000∧ ∀o∈m.opts,o.val.length≤140737488355328
theorem SmM.at {m:Msg}(h:SmM m){k:Nat}(hk:k<m.opts.length):(oat m.opts k).val.length≤140737488355328:=h.2.2.2 _ (b0f _ hk)
theorem s0j (m:Msg)(h:SmM m):Sp Tryz.prog 38 [a0U m] [] (Is (a0U m)):=by
 have hat:=fun k=>SmM.at h (k:=k)
 obtain⟨h1,h2,h3, -⟩:=h
 refine yN Tryz.func38 _ Tryz.ntmps38 (fun w0 R0=> ?_)
 refine zD (zr ?_)
 refine ye ?_
 intro B1
 refine zd ?_
 intro B2
 refine zI (zo (zD ?_))
 refine yw 7 ?_
 simp only[cT,cZ,cD,cO]
 refine yr ?_
 refine zL ?_
 refine x9 ?_
 refine yr ?_
 refine zL ?_
 refine x9 ?_
 refine yr ?_
 refine wZ ?_
 simp only[a0f,cN,cA,cP]
 rintro _ _ ⟨V3,rfl,hV3,rfl⟩
 rintro _ _ ⟨V4,rfl,hV4,rfl⟩
 simp only[cA,cN]
 refine AO.g ?_
 refine yH 1 [8] ?_
 refine AO.u ?_
 dsimp only[List.map,List.eraseIdx,cA,cN]
 refine AO.g ?_
 refine yH 0 [11] ?_
 refine AO.u ?_
 dsimp only[List.map,List.eraseIdx,cA,cN]
 refine za 1 ?_
 refine zt ?_
 refine za 1 (zI (zo (zD (zr ?_))))
 refine zc (zI (zo (zD (zD (zr ?_)))))
 refine zt ?_
 refine zn ?_
 refine zW ?_
 refine zb (zI (zo (xj ?_)))
 refine AW.g ?_
 refine G.nilRow 96 2 ?_
 refine AW.u ?_
 refine zh [(1,_),(2,_),(15,_),(16,_)] (fun nn E H=> ∃(k:Nat) (V:Value),(k≤m.opts.length)∧(V.oneCell'=true)∧nn=m.opts.length-k∧E= [(3,.val V),(17,.val (.int .i64 (k:Int)))]∧H= [.row V 96 2 k (a0x (m.opts.take k)),.blk B2 29 6 [.val (.int .i64 0),.val (.int .i64 0),.val (.int .i64 0),.val (.slice none 0 0),.val (.slice none 0 0),.val (.slice none 0 0)],.blk B1 29 6 [.val (.int .i64 m.ty),.val (.int .i64 m.code),.val (.int .i64 m.id),roB m.tok,roO m.opts,roB m.pay]]) _ (⟨0,_,by omega,rfl,rfl,rfl,rfl⟩) ?_
 rintro nn E H ⟨k,V,h4,hV,rfl,rfl,rfl⟩
 dsimp only[cA,cN]
 refine zD (zr ?_)
 refine zP (zI (zo (zD ?_)))
 refine yk (fun h5=> ?_) (fun h5=> ?_)<;>(try simp only[vX]at h5)
 ·have hk:k<m.opts.length:=by omega
  have hv:=hat k hk
  have hsc:a0x (m.opts.take (k+1))=a0x (m.opts.take k)++[.val (.int .i64 (oat m.opts k).num),roB (oat m.opts k).val]:=by rw[a0g Opt.none hk,a0y]
  refine yX (zo (zD (xj (zD (zr ?_)))))
  refine z8 ?_
  refine yU ?_
  refine zd ?_
  intro B5
  refine za 0 (zI (zo ?_))
  refine AW.regionM [(0,false),(1,false),(2,false),(3,false),(4,false),(5,true),(6,false),(7,false),(8,true),(9,true)] (by kernel_rfl) (by kernel_rfl) (by exact(by exact c0x 3 1 rfl rfl a0h)) ?_
  dsimp only[List.eraseIdx]
  refine yR ?_
  refine xd ?_
  refine we ?_
  refine xd ?_
  refine we ?_
  refine xX _ (fun w0 R0=> ?_)
  refine yD ?_
  intro V6 hV6
  refine AO.g ?_
  refine yH 0 [26] ?_
  refine AO.u ?_
  dsimp only[List.map,List.eraseIdx,cA,cN]
  refine AM.ok ?_
  dsimp only[a0z]
  refine vU rfl z7 ?_
  refine xh ?_
  refine xX _ (fun w0 R0=> ?_)
  refine zx 0 ?_
  intro V7 hV7
  refine AM.ok ?_
  dsimp only[a0z]
  refine xX _ (fun w0 R0=> ?_)
  refine zc ?_
  refine AM.ok ?_
  dsimp only[a0z]
  refine vg ?_
  dsimp only[cA,cN]
  refine xz (zo (zr ?_))
  refine zA ?_
  refine zb (zI ?_)
  refine xC _ _ _ (by omega) (⟨k+1,_,by omega,‹_›,rfl,rfl,by rw[hsc]⟩)
 obtain rfl:k=m.opts.length:=by omega
 rw[List.take_length]
 refine AW.g ?_
 refine yf 0 [3] ?_
 refine AW.u ?_
 try dsimp only[List.map,List.eraseIdx,cA,cN]
 refine wb ?_
 refine xY ?_
 refine x3 ?_
 refine xx (zo (zD (zr ?_)))
 refine zb ?_
 refine zt ?_
 refine za 1 (zI (zo (zD (zr ?_))))
 refine zC ?_
 refine za 0 (zI (zo (xc ?_)))
 refine AQ.retCell rfl rfl (by repeat(exact List.Mem.head _)) (by rfl) rfl nS (⟨rfl,rfl⟩)
def bsA (vs:List (List UInt8)):List AV:=vs.map roB
def r0j (vs:List (List UInt8)):AV:= .ro false vs.length (bsA vs)
def b0B (os:List Opt)(n:Int):List (List UInt8):=(os.filter fun o=>o.num==n).map Opt.val
theorem g0i (os:List Opt)(o:Opt)(n:Int):b0B (os++[o]) n=if o.num=n then b0B os n++[o.val]else b0B os n:=by
 unfold b0B
 rw[List.filter_append,List.map_append]
 by_cases h:o.num=n<;>simp[h]
theorem f0g (vs:List (List UInt8))(v:List UInt8):bsA (vs++[v])=bsA vs++[roB v]:=by simp[bsA]
@[simp] theorem v0m (vs:List (List UInt8)):(bsA vs).length=vs.length:=by simp[bsA]
abbrev vat (vs:List (List UInt8))(k:Nat):List UInt8:=vs.getD k []
theorem e0P {vs:List (List UInt8)}{k:Nat}(h:k<vs.length){j:Nat}(hj:j=k):(bsA vs)[j]? =some (roB (vat vs k)):=by
 subst hj;simp[bsA,h,vat]
theorem d0r (os:List Opt)(n:Int):(b0B os n).length≤os.length:=by
 unfold b0B;rw[List.length_map];exact List.length_filter_le _ _
theorem u0h (m:Msg)(n:Int)(h3:m.opts.length≤1000000)(hat: ∀o∈m.opts,o.val.length≤140737488355328):Sp Tryz.prog 71 [a0U m,.val (.int .i64 n)] [] (Is (r0j (b0B m.opts n))):=by
 refine yN Tryz.func71 _ Tryz.ntmps71 (fun w0 R0=> ?_)
 refine zD (zr ?_)
 refine ye ?_
 intro B1
 refine zc (zI (zo (zD (zr ?_))))
 refine zc (zI (zo (zD (zD (zr ?_)))))
 refine zt ?_
 refine zy ?_
 refine zW ?_
 refine zb (zI (zo (xj ?_)))
 refine AW.g ?_
 refine G.nilRow 22 1 ?_
 refine AW.u ?_
 refine zh [(1,_),(9,_),(10,_)] (fun nn E H=> ∃(k:Nat) (V:Value),(k≤m.opts.length)∧(V.oneCell'=true)∧nn=m.opts.length-k∧E= [(5,.val V),(11,.val (.int .i64 (k:Int)))]∧H= [.row V 22 1 (b0B (m.opts.take k) n).length (bsA (b0B (m.opts.take k) n)),.blk B1 29 6 [.val (.int .i64 m.ty),.val (.int .i64 m.code),.val (.int .i64 m.id),roB m.tok,roO m.opts,roB m.pay]]) _ (⟨0,_,by omega,rfl,rfl,rfl,rfl⟩) ?_
 rintro nn E H ⟨k,V,h4,hV,rfl,rfl,rfl⟩
 dsimp only[cA,cN]
 have hl:=d0r (m.opts.take k) n
 rw[List.length_take]at hl
 refine zD (zr ?_)
 refine zP (zI (zo (zD ?_)))
 refine yk (fun h5=> ?_) (fun h5=> ?_)<;>(try simp only[vX]at h5)
 ·have hk:k<m.opts.length:=by omega
  have hv:(oat m.opts k).val.length≤140737488355328:=hat _ (b0f Opt.none hk)
  have hsc:=g0i (m.opts.take k) (oat m.opts k) n
  rw[←a0g Opt.none hk]at hsc
  refine yX (zo (zD (xj (zD (zr ?_)))))
  refine z8 ?_
  refine yU ?_
  refine zd ?_
  intro B2
  refine za 0 (zI (zo (zD (zr ?_))))
  refine zt ?_
  refine zy ?_
  refine zb ?_
  refine z9 (zI (zo ?_))
  refine yk (fun h6=> ?_) (fun h6=> ?_)<;>(try simp only[vX]at h6)
  ·rw[if_pos h6]at hsc
   refine zr ?_
   refine zb ?_
   refine zt ?_
   refine zy ?_
   refine yD ?_
   intro V3 hV3
   refine AO.g ?_
   refine yH 0 [22] ?_
   refine AO.u ?_
   dsimp only[List.map,List.eraseIdx,cA,cN]
   refine zQ ?_
   intro B4
   refine AO.g ?_
   refine yc 0 23 ?_
   refine wd 23 ?_
   refine AO.u ?_
   dsimp only[List.eraseIdx]
   refine zx 1 ?_
   intro V5 hV5
   refine zc (zI (xz (zo (zr ?_))))
   refine zA ?_
   refine zb (zI ?_)
   refine zJ _ _ _ (by omega) (⟨k+1,_,by omega,‹_›,rfl,rfl,by rw[hsc,f0g,cH]⟩)
  rw[if_neg h6]at hsc
  refine yX (xz (zo (zr ?_)))
  refine zA ?_
  refine zb (zI ?_)
  refine zJ _ _ _ (by omega) (⟨k+1,_,by omega,hV,rfl,rfl,by rw[hsc]⟩)
 obtain rfl:k=m.opts.length:=by omega
 rw[List.take_length]
 refine AW.g ?_
 refine yf 0 [5] ?_
 refine AW.u ?_
 try dsimp only[List.map,List.eraseIdx,cA,cN]
 refine wb ?_
 refine xY ?_
 refine x3 ?_
 refine xx (zo (zD (zr ?_)))
 refine zb ?_
 refine zc (zI (zo (xc ?_)))
 refine yE
theorem o0j (m:Msg)(n:Int)(h3:m.opts.length≤1000000)(hat: ∀o∈m.opts,o.val.length≤140737488355328):Sp Tryz.prog 71 [a0U m,.val (.int .i64 n)] [] (b0h 22 1 (b0B m.opts n).length (bsA (b0B m.opts n))):=by
 refine yN Tryz.func71 _ Tryz.ntmps71 (fun w0 R0=> ?_)
 refine zD (zr ?_)
 refine ye ?_
 intro B1
 refine zc (zI (zo (zD (zr ?_))))
 refine zc (zI (zo (zD (zD (zr ?_)))))
 refine zt ?_
 refine zy ?_
 refine zW ?_
 refine zb (zI (zo (xj ?_)))
 refine AW.g ?_
 refine G.nilRow 22 1 ?_
 refine AW.u ?_
 refine zh [(1,_),(9,_),(10,_)] (fun nn E H=> ∃(k:Nat) (V:Value),(k≤m.opts.length)∧(V.oneCell'=true)∧nn=m.opts.length-k∧E= [(5,.val V),(11,.val (.int .i64 (k:Int)))]∧H= [.row V 22 1 (b0B (m.opts.take k) n).length (bsA (b0B (m.opts.take k) n)),.blk B1 29 6 [.val (.int .i64 m.ty),.val (.int .i64 m.code),.val (.int .i64 m.id),roB m.tok,roO m.opts,roB m.pay]]) _ (⟨0,_,by omega,rfl,rfl,rfl,rfl⟩) ?_
 rintro nn E H ⟨k,V,h4,hV,rfl,rfl,rfl⟩
 dsimp only[cA,cN]
 have hl:=d0r (m.opts.take k) n
 rw[List.length_take]at hl
 refine zD (zr ?_)
 refine zP (zI (zo (zD ?_)))
 refine yk (fun h5=> ?_) (fun h5=> ?_)<;>(try simp only[vX]at h5)
 ·have hk:k<m.opts.length:=by omega
  have hv:(oat m.opts k).val.length≤140737488355328:=hat _ (b0f Opt.none hk)
  have hsc:=g0i (m.opts.take k) (oat m.opts k) n
  rw[←a0g Opt.none hk]at hsc
  refine yX (zo (zD (xj (zD (zr ?_)))))
  refine z8 ?_
  refine yU ?_
  refine zd ?_
  intro B2
  refine za 0 (zI (zo (zD (zr ?_))))
  refine zt ?_
  refine zy ?_
  refine zb ?_
  refine z9 (zI (zo ?_))
  refine yk (fun h6=> ?_) (fun h6=> ?_)<;>(try simp only[vX]at h6)
  ·rw[if_pos h6]at hsc
   refine zr ?_
   refine zb ?_
   refine zt ?_
   refine zy ?_
   refine yD ?_
   intro V3 hV3
   refine AO.g ?_
   refine yH 0 [22] ?_
   refine AO.u ?_
   dsimp only[List.map,List.eraseIdx,cA,cN]
   refine zQ ?_
   intro B4
   refine AO.g ?_
   refine yc 0 23 ?_
   refine wd 23 ?_
   refine AO.u ?_
   dsimp only[List.eraseIdx]
   refine zx 1 ?_
   intro V5 hV5
   refine zc (zI (xz (zo (zr ?_))))
   refine zA ?_
   refine zb (zI ?_)
   refine zJ _ _ _ (by omega) (⟨k+1,_,by omega,‹_›,rfl,rfl,by rw[hsc,f0g,cH]⟩)
  rw[if_neg h6]at hsc
  refine yX (xz (zo (zr ?_)))
  refine zA ?_
  refine zb (zI ?_)
  refine zJ _ _ _ (by omega) (⟨k+1,_,by omega,hV,rfl,rfl,by rw[hsc]⟩)
 obtain rfl:k=m.opts.length:=by omega
 rw[List.take_length]
 refine wb ?_
 refine xY ?_
 refine x3 ?_
 refine xx (zo (zD (zr ?_)))
 refine zb ?_
 refine zc (zI (zo (xc ?_)))
 refine vu rfl rfl ⟨_,by repeat(first|exact List.Sublist.slnil|refine List.Sublist.cons_cons _ ?_|refine List.Sublist.cons _ ?_),List.Perm.refl _⟩ (⟨_,rfl,hV,rfl⟩)
theorem q0M (m:Msg)(os:List Opt)(h1:m.tok.length≤140737488355328)(h2:m.pay.length≤140737488355328)(h3:os.length≤1000000)(hat: ∀o∈os,o.val.length≤140737488355328):
  Sp Tryz.prog 75 [a0U m,roO os] [] (Is (a0U ⟨m.ty,m.code,m.id,m.tok,os,m.pay⟩)):=by
 refine yN Tryz.func75 _ Tryz.ntmps75 (fun w0 R0=> ?_)
 refine zD (zr ?_)
 refine ye ?_
 intro B1
 refine zd ?_
 intro B2
 refine zI (zo (zD ?_))
 refine yw 7 ?_
 simp only[cT,cZ,cD,cO]
 refine yr ?_
 refine zL ?_
 refine x9 ?_
 refine yr ?_
 refine zL ?_
 refine x9 ?_
 refine yr ?_
 refine wZ ?_
 simp only[a0f,cN,cA,cP]
 rintro _ _ ⟨V3,rfl,hV3,rfl⟩
 rintro _ _ ⟨V4,rfl,hV4,rfl⟩
 simp only[cA,cN]
 refine AO.g ?_
 refine yH 1 [10] ?_
 refine AO.u ?_
 dsimp only[List.map,List.eraseIdx,cA,cN]
 refine AO.g ?_
 refine yH 0 [13] ?_
 refine AO.u ?_
 dsimp only[List.map,List.eraseIdx,cA,cN]
 refine za 1 ?_
 refine zt ?_
 refine za 1 (zI (zo (zD (zr ?_))))
 refine zc (zI (zo (zD (zD (zr ?_)))))
 refine zb ?_
 refine zW ?_
 refine zb (zI (zo (xj ?_)))
 refine AW.g ?_
 refine G.nilRow 96 2 ?_
 refine AW.u ?_
 refine zh [(2,_),(4,_),(16,_),(17,_)] (fun nn E H=> ∃(k:Nat) (V:Value),(k≤os.length)∧(V.oneCell'=true)∧nn=os.length-k∧E= [(5,.val V),(18,.val (.int .i64 (k:Int)))]∧H= [.row V 96 2 k (a0x (os.take k)),.blk B2 29 6 [.val (.int .i64 0),.val (.int .i64 0),.val (.int .i64 0),.val (.slice none 0 0),.val (.slice none 0 0),.val (.slice none 0 0)],.blk B1 29 6 [.val (.int .i64 m.ty),.val (.int .i64 m.code),.val (.int .i64 m.id),roB m.tok,roO m.opts,roB m.pay]]) _ (⟨0,_,by omega,rfl,rfl,rfl,rfl⟩) ?_
 rintro nn E H ⟨k,V,h4,hV,rfl,rfl,rfl⟩
 dsimp only[cA,cN]
 refine zD (zr ?_)
 refine zP (zI (zo (zD ?_)))
 refine yk (fun h5=> ?_) (fun h5=> ?_)<;>(try simp only[vX]at h5)
 ·have hk:k<os.length:=by omega
  have hv:(oat os k).val.length≤140737488355328:=hat _ (b0f Opt.none hk)
  have hsc:a0x (os.take (k+1))=a0x (os.take k)++[.val (.int .i64 (oat os k).num),roB (oat os k).val]:=by rw[a0g Opt.none hk,a0y]
  refine yX (zo (zD (xj (zD (zr ?_)))))
  refine z8 ?_
  refine yU ?_
  refine zd ?_
  intro B5
  refine za 0 (zI (zo ?_))
  refine AW.regionM [(0,false),(1,false),(2,false),(3,false),(4,false),(5,true),(6,false),(7,false),(8,true),(9,true)] (by kernel_rfl) (by kernel_rfl) (by exact(by exact c0x 5 1 rfl rfl a0h)) ?_
  dsimp only[List.eraseIdx]
  refine yR ?_
  refine xd ?_
  refine we ?_
  refine xd ?_
  refine we ?_
  refine xX _ (fun w0 R0=> ?_)
  refine yD ?_
  intro V6 hV6
  refine AO.g ?_
  refine yH 0 [27] ?_
  refine AO.u ?_
  dsimp only[List.map,List.eraseIdx,cA,cN]
  refine AM.ok ?_
  dsimp only[a0z]
  refine vU rfl z7 ?_
  refine xh ?_
  refine xX _ (fun w0 R0=> ?_)
  refine zx 0 ?_
  intro V7 hV7
  refine AM.ok ?_
  dsimp only[a0z]
  refine xX _ (fun w0 R0=> ?_)
  refine zc ?_
  refine AM.ok ?_
  dsimp only[a0z]
  refine vg ?_
  dsimp only[cA,cN]
  refine xz (zo (zr ?_))
  refine zA ?_
  refine zb (zI ?_)
  refine xC _ _ _ (by omega) (⟨k+1,_,by omega,‹_›,rfl,rfl,by rw[hsc]⟩)
 obtain rfl:k=os.length:=by omega
 rw[List.take_length]
 refine AW.g ?_
 refine yf 0 [5] ?_
 refine AW.u ?_
 try dsimp only[List.map,List.eraseIdx,cA,cN]
 refine wb ?_
 refine xY ?_
 refine x3 ?_
 refine xx (zo (zD (zr ?_)))
 refine zb ?_
 refine zt ?_
 refine za 1 (zI (zo (zD (zr ?_))))
 refine zC ?_
 refine za 0 (zI (zo (xc ?_)))
 refine AQ.retCell rfl rfl (by repeat(exact List.Mem.head _)) (by(dsimp only[List.set,cA,cN,List.take,List.drop];rfl)) rfl nS (⟨rfl,rfl⟩)
theorem q0E {kid:List UInt8}{piv:Int}(h:7<kid.length):h0Q kid piv=([],1):=if_pos h
theorem q0D {kid:List UInt8}{piv:Int}(h: ¬7<kid.length)(h2:piv<0∨1099511627775<piv):h0Q kid piv=([],8):=(if_neg h).trans (if_pos h2)
theorem q0C {kid:List UInt8}{piv:Int}(h: ¬7<kid.length)(h2: ¬(piv<0∨1099511627775<piv)):h0Q kid piv=(s0u kid (b0K piv),0):=(if_neg h).trans (if_neg h2)
theorem j0s (kid:List UInt8)(piv:Int):Sp Tryz.prog 67 [roB kid,.val (.int .i64 piv)] [] (Is (s0A (h0Q kid piv))):=by
 refine yN Tryz.func67 _ Tryz.ntmps67 (fun w0 R0=> ?_)
 refine zD (zr ?_)
 refine zc ?_
 refine zc (zI (zo (zD (zD (zr ?_)))))
 refine zb ?_
 refine zW ?_
 refine yS (zI (zo ?_))
 refine yk (fun h1=> ?_) (fun h1=> ?_)<;>(try simp only[vX]at h1)
 ·rw[q0E (by omega)]
  refine zD (zr ?_)
  refine zc ?_
  refine zc (zI (zo (xc (xr ?_))))
  refine x8 yJ yq (⟨rfl,rfl⟩)
 have hk:kid.length≤7:=by omega
 refine yX (zo (zD (zD (zr ?_))))
 refine zb ?_
 refine zP ?_
 refine zb ?_
 refine yt ?_
 refine yp 13 ?_
 refine zE (zI (zo ?_))
 refine yk (fun h2=> ?_) (fun h2=> ?_)<;>(try simp only[vX]at h2)
 ·rw[q0D (by omega) (by omega)]
  refine zD (zr ?_)
  refine zc ?_
  refine zc (zI (zo (xc (xr ?_))))
  refine x8 yJ yq (⟨rfl,rfl⟩)
 rw[q0C (by omega) (by omega)]
 have hpl:=c0B piv
 have hxl:=f0h hk hpl
 have hxe:=p0X (kid:=kid) (pb:=b0K piv) (by omega) (by omega)
 have hoe:=p0W hk hpl
 have hol:(s0u kid (b0K piv)).length≤100000:=by
  rw[←hoe,n0L (by show 3<24;omega),g0o,b0g (by show 3<24;omega)]
  simp only[q0F,List.map_cons,List.map_nil,List.flatten_cons,List.flatten_nil,cP,cH,cL,cE]
  rw[e0U (k:=3) (m:=3) (b:=h0S) rfl (.inr rfl) (by decide),e0U (k:=2) (m:=2) rfl (.inl rfl) (by simp),e0U (k:=2) (m:=2) rfl (.inl rfl) hxl,b0g hxl]
  simp[b0g,h0S];omega
 have hl1:=d0O 0 [.mk 0 ((10:Nat):Int) [] []] (by simp) (fun y hy=>by obtain rfl:=List.mem_singleton.1 hy;exact a0H (by simp))
 have hl5:=d0O 1 (s0t kid (b0K piv)) (by show 5≤1000;omega) (by
  intro y hy
  simp only[s0t,List.mem_cons,List.not_mem_nil,or_false]at hy
  rcases hy with rfl|rfl|rfl|rfl|rfl
  ·exact a0H (by simp)
  ·exact⟨by simp,by simp,fun z hz=>by obtain rfl:=List.mem_singleton.1 hz;exact a0H (by simp)⟩
  ·exact a0H (by omega)
  ·exact a0H (by omega)
  exact a0H (by simp))
 have hl3:=d0O 0 (q0F (i0W kid (b0K piv))) (by show 3≤1000;omega) (by
  intro y hy
  simp only[q0F,List.mem_cons,List.not_mem_nil,or_false]at hy
  rcases hy with rfl|rfl|rfl
  ·exact a0H (by decide)
  ·exact a0H (by simp)
  exact a0H (by omega))
 have hr5:=f0B 2 (.mk 4 0 [] (s0t kid (b0K piv))) (.inr ⟨rfl,rfl,rfl,by show 5<24;omega,by
  intro y hy
  simp only[s0t,List.mem_cons,List.not_mem_nil,or_false]at hy
  rcases hy with rfl|rfl|rfl|rfl|rfl
  ·exact .inl ⟨rfl,.inl ⟨.inl rfl,by omega,by omega,rfl⟩⟩
  ·exact .inr ⟨rfl,rfl,rfl,by simp,fun z hz=>by obtain rfl:=List.mem_singleton.1 hz;exact⟨rfl,.inl ⟨.inl rfl,by omega,by omega,rfl⟩⟩⟩
  ·exact .inl ⟨rfl,.inr ⟨.inl rfl,rfl,by omega⟩⟩
  ·exact .inl ⟨rfl,.inr ⟨.inl rfl,rfl,by omega⟩⟩
  exact .inl ⟨rfl,.inr ⟨.inl rfl,rfl,by simp⟩⟩⟩) (by rw[hxe];omega)
 have hr3:=f0B 1 (.mk 4 0 [] (q0F (i0W kid (b0K piv)))) (.inr ⟨rfl,rfl,rfl,by show 3<24;omega,by
  intro y hy
  simp only[q0F,List.mem_cons,List.not_mem_nil,or_false]at hy
  rcases hy with rfl|rfl|rfl
  ·exact⟨rfl,.inr ⟨.inr rfl,rfl,by decide⟩⟩
  ·exact⟨rfl,.inr ⟨.inl rfl,rfl,by simp⟩⟩
  exact⟨rfl,.inr ⟨.inl rfl,rfl,hxl⟩⟩⟩) (by rw[hoe];exact hol)
 unfold g0v at hr5 hr3
 rw[hxe]at hr5
 rw[hoe]at hr3
 generalize i0W kid (b0K piv)=x at*
 generalize s0u kid (b0K piv)=y at*
 rw[d0m]at hl1 hl5 hl3 hr5 hr3
 simp only[s0t,q0F,d0U,e0E,d0m,cP,cA,cN,cL,cE,Nat.zero_add,Nat.reduceAdd]at hl1 hl5 hl3 hr5 hr3
 refine yX (zo (zD (zr ?_)))
 refine vT (xH rfl Tryz.func124 rfl rfl rfl (e0q _ ⟨by omega,by omega⟩)) ?_
 refine vT (xH rfl Tryz.func124 rfl rfl rfl (e0q _ ⟨by omega,by omega⟩)) ?_
 refine zQ ?_
 intro B1
 refine AO.g ?_
 refine yc 0 18 ?_
 refine wd 18 ?_
 refine AO.u ?_
 dsimp only[List.eraseIdx]
 refine vT (xH rfl Tryz.func123 rfl rfl rfl hl1) ?_
 refine zb ?_
 refine vT (xH rfl Tryz.func125 rfl rfl rfl (c0U _ (by omega))) ?_
 refine zb ?_
 refine vT (xH rfl Tryz.func74 rfl rfl rfl (i0g _)) ?_
 refine vT (xH rfl Tryz.func125 rfl rfl rfl (c0U _ (by omega))) ?_
 refine vT (O.callC rfl Tryz.func125 rfl rfl rfl (c0U [] (by simp)) (by(repeat(first|exact CoeL.nil|refine CoeL.cons Coe.nil ?_));done)) ?_
 refine y6 ?_
 intro B2
 refine AO.g ?_
 refine yc 0 26 ?_
 refine wd 26 ?_
 refine AO.u ?_
 dsimp only[List.eraseIdx]
 refine vT (xH rfl Tryz.func123 rfl rfl rfl hl5) ?_
 refine vT (xH rfl Tryz.func122 rfl rfl rfl hr5) ?_
 refine zc (zI (zo (zD (zr ?_))))
 refine vT (xH rfl Tryz.func126 rfl rfl rfl o0G) ?_
 refine vT (O.callC rfl Tryz.func125 rfl rfl rfl (c0U [] (by simp)) (by(repeat(first|exact CoeL.nil|refine CoeL.cons Coe.nil ?_));done)) ?_
 refine zb ?_
 refine vT (xH rfl Tryz.func125 rfl rfl rfl (c0U _ (by omega))) ?_
 refine y6 ?_
 intro B3
 refine AO.g ?_
 refine yc 0 33 ?_
 refine wd 33 ?_
 refine AO.u ?_
 dsimp only[List.eraseIdx]
 refine vT (xH rfl Tryz.func123 rfl rfl rfl hl3) ?_
 refine vT (xH rfl Tryz.func122 rfl rfl rfl hr3) ?_
 refine zc ?_
 refine zc (zI (zo (xc ?_)))
 refine xJ
theorem e0W (k n:Int)(hk:0≤k∧k≤7)(hn:0≤n∧n<24):Sp Tryz.prog 151 [.val (.int .u8 k),.val (.int .u64 n)] [] (b0h 5 1 1 (a0a [u8 (32*k+n)])):=by
 have e:k*32+n=((u8 (32*k+n)).toNat:Int):=by rw[a0F (by omega)];omega
 have e2:a0d (a0p 1 (Value.int IntKind.u8 0)) (0*1) (AV.val (Value.int IntKind.u8 (k*32+n))).cells=a0a [u8 (32*k+n)]:=by
  show [AV.val (.int .u8 (k*32+n))]= [AV.val (.int .u8 ((u8 (32*k+n)).toNat:Int))]
  rw[←e]
 refine yN Tryz.func151 _ Tryz.ntmps151 (fun w0 R0=> ?_)
 refine zD (zr ?_)
 refine zc (zI (zo (zD (zr ?_))))
 refine zb ?_
 refine vT (O.shlK 5 32 rfl rfl rfl rfl (by rfl) (by exact wU8 (by omega))) ?_
 refine zc (zI (zo (zD (xj (zD (zr ?_))))))
 refine zb ?_
 refine vT (O.lss rfl rfl rfl (by exact o0d (by omega))) ?_
 refine zc (zI (zo ?_))
 refine AW.condT rfl (zD (zr ?_))
 refine zb ?_
 refine zb ?_
 refine vT (O.conv rfl rfl (by exact wU8 (by omega))) ?_
 refine vT (O.or_ rfl rfl rfl (v0F 5 (m:=32) (by decide) (by omega) (by omega))) ?_
 refine zQ ?_
 intro B1
 refine zc (zI (zo (xc ?_)))
 refine wi (xr ?_)
 refine AQ.g ?_
 refine G.closeRow (n:=1) (cap:=1) 0 rfl rfl rfl (Nat.le_refl _) (by(unfold maxLen;omega)) ?_
 refine AQ.u ?_
 dsimp only[List.set]
 rw[e2]
 refine vu rfl rfl ⟨_,by repeat(first|exact List.Sublist.slnil|refine List.Sublist.cons_cons _ ?_),List.Perm.refl _⟩ (⟨_,rfl,rfl,rfl⟩)
theorem m0d (n:Nat)(hn:n<24):Sp Tryz.prog 110 [.val (.int .i64 (n:Int))] [] (Is (roB (e0M n))):=by
 rw[e0M,b0g hn,show UInt8.ofNat (32*0+n)=u8 (32*0+(n:Int)) by rw[show 32*0+(n:Int)=((32*0+n:Nat):Int) by omega,e0k]]
 refine yN Tryz.func110 _ Tryz.ntmps110 (fun w0 R0=> ?_)
 refine zD (zr ?_)
 refine zc (zI (zo (zD (zD (zr ?_)))))
 refine zb ?_
 refine vT (O.lss rfl rfl rfl (by exact e0d (by omega))) (zI (zo ?_))
 refine AW.condF rfl (yX (zo (zD (zr ?_))))
 refine zb ?_
 refine wa ?_
 refine vV (xH rfl Tryz.func151 rfl rfl rfl (e0W _ _ ⟨by omega,by omega⟩ ⟨by omega,by omega⟩)) ?_
 intro V1 hV1
 refine zc (zI (zo (xc ?_)))
 refine AQ.g ?_
 refine yf 0 [2] ?_
 refine AQ.u ?_
 try dsimp only[List.map,List.eraseIdx,cA,cN]
 refine yE
theorem f0k (b:List UInt8)(hb:b.length<24):Sp Tryz.prog 111 [roB b] [] (Is (roB (c0o b))):=by
 have e1:a0a [u8 (32*2+(b.length:Int))]++a0a b=a0a (c0o b):=by
  rw[c0o,b0g hb,show u8 (32*2+(b.length:Int))=UInt8.ofNat (32*2+b.length) by rw[show 32*2+(b.length:Int)=((32*2+b.length:Nat):Int) by omega,e0k]];rfl
 have e2:1+b.length=(c0o b).length:=by rw[c0o,b0g hb,cH];rfl
 refine yN Tryz.func111 _ Tryz.ntmps111 (fun w0 R0=> ?_)
 refine zD (zr ?_)
 refine zc (zI (zo (zD (zr ?_))))
 refine zb ?_
 refine zW ?_
 refine wa ?_
 refine vV (xH rfl Tryz.func151 rfl rfl rfl (e0W _ _ ⟨by omega,by omega⟩ ⟨by omega,by omega⟩)) ?_
 intro V1 hV1
 refine zb ?_
 refine zH 0 ?_
 intro V2 hV2
 refine zc (zI (zo (xc ?_)))
 rw[e1,e2]
 refine AQ.g ?_
 refine yf 0 [2] ?_
 refine AQ.u ?_
 try dsimp only[List.map,List.eraseIdx,cA,cN]
 refine yE
theorem q0L:Sp Tryz.prog 113 [.val (.string ⟨#[69,110,99,114,121,112,116,48]⟩)] [] (Is (roB (k0d h0S))):=by
 have e1:a0a [u8 (32*3+8)]++a0a h0S=a0a (k0d h0S):=rfl
 have z1:(⟨#[69,110,99,114,121,112,116,48]⟩:ByteArray).size=8:=rfl
 have z2:(⟨#[69,110,99,114,121,112,116,48]⟩:ByteArray).data.toList.length=8:=rfl
 have z3:(⟨#[69,110,99,114,121,112,116,48]⟩:ByteArray).toList.length=8:=by decide +kernel
 refine yN Tryz.func113 _ Tryz.ntmps113 (fun w0 R0=> ?_)
 refine zD (zr ?_)
 refine zc (zI (zo (zD (zr ?_))))
 refine zb ?_
 refine vT (O.lenS rfl rfl) ?_
 refine wa ?_
 refine vV (xH rfl Tryz.func151 rfl rfl rfl (e0W 3 8 ⟨by omega,by omega⟩ ⟨by omega,by omega⟩)) ?_
 intro V1 hV1
 refine zb ?_
 refine AO.append' (i:=0) rfl rfl rfl rfl (by rfl) (by rfl) rfl rfl rfl (by exact SrcA.str TyD.ax (by rfl)) (by rfl) (by(unfold maxLen;omega)) (by omega) (by(dsimp only[List.set,cA,cN,List.take,List.drop];done)) (fun _=>by(dsimp only[List.set];done)) ?_
 intro V2 hV2
 refine zc (zI (zo (xc ?_)))
 rw[show a0a [u8 (32*3+8)]++List.map AV.val (byteCells ⟨#[69,110,99,114,121,112,116,48]⟩)=a0a (k0d h0S) by kernel_rfl,show 1+(⟨#[69,110,99,114,121,112,116,48]⟩:ByteArray).size=(k0d h0S).length by rfl]
 refine AQ.g ?_
 refine yf 0 [2] ?_
 refine AQ.u ?_
 try dsimp only[List.map,List.eraseIdx,cA,cN]
 refine yE
theorem d0W (l:List (List UInt8))(k:Nat):(l.take k).flatten.length≤l.flatten.length:=by
 conv=>rhs;rw[←List.take_append_drop k l]
 rw[List.flatten_append,cH];omega
theorem f0M (l:List (List UInt8)){k:Nat}(h:k<l.length):(l.take (k+1)).flatten=(l.take k).flatten++vat l k:=by
 rw[a0g [] h,List.flatten_append];simp[vat]
theorem j0b (l:List (List UInt8))(hl:l.length<24)(hf:l.flatten.length≤100000):Sp Tryz.prog 109 [r0j l] [] (Is (roB (g0o l))):=by
 have ea:g0o l=u8 (32*4+(l.length:Int))::l.flatten:=by
  rw[g0o,b0g hl,show u8 (32*4+(l.length:Int))=UInt8.ofNat (32*4+l.length) by rw[show 32*4+(l.length:Int)=((32*4+l.length:Nat):Int) by omega,e0k]];rfl
 rw[ea]
 refine yN Tryz.func109 _ Tryz.ntmps109 (fun w0 R0=> ?_)
 refine zD (zr ?_)
 refine zc (zI (zo (zD (zr ?_))))
 refine zb ?_
 refine zW ?_
 refine wa ?_
 refine vV (xH rfl Tryz.func151 rfl rfl rfl (e0W _ _ ⟨by omega,by omega⟩ ⟨by omega,by omega⟩)) ?_
 intro V1 hV1
 refine zc (zI (zo (zD (zD (zr ?_)))))
 refine zb ?_
 refine zW ?_
 refine zb (zI (zo (xj ?_)))
 obtain⟨h0,hh0⟩: ∃h0,h0=u8 (32*4+(l.length:Int)):=⟨_,rfl⟩
 rw[←hh0]
 refine zh [(10,_),(11,_)] (fun nn E H=> ∃(k:Nat) (V:Value) (o:List UInt8),(k≤l.length)∧(V.oneCell'=true)∧(o=h0::(l.take k).flatten)∧nn=l.length-k∧E= [(3,.val V),(12,.val (.int .i64 (k:Int)))]∧H= [.row V 5 1 o.length (a0a o)]) _ (⟨0,_,[h0],by omega,‹_›,rfl,rfl,rfl,rfl⟩) ?_
 rintro nn E H ⟨k,V,o,hk,hV,ho,rfl,rfl,rfl⟩
 dsimp only[cA,cN]
 have hol:o.length=1+(l.take k).flatten.length:=by rw[ho,cL];omega
 have hkl:=d0W l k
 refine zD (zr ?_)
 refine zP (zI (zo (zD ?_)))
 refine yk (fun hlt=> ?_) (fun hlt=> ?_)<;>(try simp only[vX]at hlt)
 ·have hs:=f0M l (k:=k) (by omega)
  have hkl2:=d0W l (k+1)
  rw[hs,cH]at hkl2
  refine yX (zo (zD (xj (zD (zr ?_)))))
  refine z8 ?_
  refine vT (O.loadR rfl rfl (by exact e0P (k:=k) (by omega) (by omega))) ?_
  refine zc (zI (zo (zr ?_)))
  refine zb ?_
  refine zb ?_
  refine zH 0 ?_
  intro V2 hV2
  refine zc (zI (xz (zo (zr ?_))))
  refine zA ?_
  refine zb (zI ?_)
  rw[show a0a o++a0a (vat l k)=a0a (o++vat l k)from(a0O _ _).symm,show o.length+(vat l k).length=(o++vat l k).length from List.length_append.symm]
  refine zq _ _ _ (by omega) (⟨k+1,_,o++vat l k,by omega,‹_›,by rw[ho,hs];rfl,rfl,rfl,rfl⟩)
 obtain rfl:k=l.length:=by omega
 rw[List.take_length]at ho
 subst ho
 refine wb ?_
 refine xY ?_
 refine x3 ?_
 refine xx (zo (zD (zr ?_)))
 refine zb ?_
 refine zc (zI (zo (xc ?_)))
 refine AQ.g ?_
 refine yf 0 [2] ?_
 refine AQ.u ?_
 try dsimp only[List.map,List.eraseIdx,cA,cN]
 refine yE
theorem j0O (kid:List UInt8)(piv:Int):Sp Tryz.prog 60 [roB kid,.val (.int .i64 piv)] [] (Is (s0A (h0Q kid piv))):=by
 refine yN Tryz.func60 _ Tryz.ntmps60 (fun w0 R0=> ?_)
 refine zD (zr ?_)
 refine zc ?_
 refine zc (zI (zo (zD (zD (zr ?_)))))
 refine zb ?_
 refine zW ?_
 refine yS (zI (zo ?_))
 refine yk (fun h1=> ?_) (fun h1=> ?_)<;>(try simp only[vX]at h1)
 ·rw[q0E (by omega)]
  refine zD (zr ?_)
  refine zc ?_
  refine zc (zI (zo (xc (xr ?_))))
  refine x8 yJ yq (⟨rfl,rfl⟩)
 have hk:kid.length≤7:=by omega
 refine yX (zo (zD (zD (zr ?_))))
 refine zb ?_
 refine zP ?_
 refine zb ?_
 refine yt ?_
 refine yp 14 ?_
 refine zE (zI (zo ?_))
 refine yk (fun h2=> ?_) (fun h2=> ?_)<;>(try simp only[vX]at h2)
 ·rw[q0D (by omega) (by omega)]
  refine zD (zr ?_)
  refine zc ?_
  refine zc (zI (zo (xc (xr ?_))))
  refine x8 yJ yq (⟨rfl,rfl⟩)
 rw[q0C (by omega) (by omega)]
 have hpl:=c0B piv
 have hxl:=f0h hk hpl
 have hsl: ∀b:List UInt8,b.length<24→(c0o b).length=1+b.length:=fun b h=>by rw[c0o,b0g h,cH];rfl
 have ha1:Sp Tryz.prog 109 [.ro false 1 [roB (e0M 10)]] [] (Is (roB (g0o [e0M 10]))):=j0b [e0M 10] (by simp) (by decide)
 have ha5:Sp Tryz.prog 109 [.ro false 5 [roB (e0M 1),roB (g0o [e0M 10]),roB (c0o kid),roB (c0o (b0K piv)),roB (c0o [])]] [] (Is (roB (i0W kid (b0K piv)))):=j0b [e0M 1,g0o [e0M 10],c0o kid,c0o (b0K piv),c0o []] (by simp) (by
  have h1:=hsl kid (by omega)
  have h2:=hsl (b0K piv) (by omega)
  have h3:=hsl [] (by simp)
  have h4:(e0M 1).length=1:=rfl
  have h5:(g0o [e0M 10]).length=2:=rfl
  simp only[List.flatten_cons,List.flatten_nil,cP,cH,cE]at h3⊢;omega)
 have ha3:Sp Tryz.prog 109 [.ro false 3 [roB (k0d h0S),roB (c0o []),roB (c0o (i0W kid (b0K piv)))]] [] (Is (roB (s0u kid (b0K piv)))):=j0b [k0d h0S,c0o [],c0o (i0W kid (b0K piv))] (by simp) (by
  have h1:=hsl _ hxl
  have h3:=hsl [] (by simp)
  have h4:(k0d h0S).length=9:=rfl
  simp only[List.flatten_cons,List.flatten_nil,cP,cH,cE]at h3⊢;omega)
 generalize i0W kid (b0K piv)=x at*
 generalize s0u kid (b0K piv)=y at*
 generalize g0o [e0M 10]=z at*
 refine yX (zo (zD (zr ?_)))
 refine vT (xH rfl Tryz.func110 rfl rfl rfl (m0d 10 (by omega))) ?_
 refine zQ ?_
 intro B1
 refine AO.g ?_
 refine yc 0 18 ?_
 refine wd 18 ?_
 refine AO.u ?_
 dsimp only[List.eraseIdx]
 refine vT (xH rfl Tryz.func109 rfl rfl rfl ha1) ?_
 refine zc (zI (zo (zD (zr ?_))))
 refine vT (xH rfl Tryz.func110 rfl rfl rfl (m0d 1 (by omega))) ?_
 refine zb ?_
 refine zb ?_
 refine vT (xH rfl Tryz.func111 rfl rfl rfl (f0k _ (by omega))) ?_
 refine zb ?_
 refine vT (xH rfl Tryz.func112 rfl rfl rfl (k0W _)) ?_
 refine vT (xH rfl Tryz.func111 rfl rfl rfl (f0k _ (by omega))) ?_
 refine vT (O.callC rfl Tryz.func111 rfl rfl rfl (f0k [] (by simp)) (by(repeat(first|exact CoeL.nil|refine CoeL.cons Coe.nil ?_));done)) ?_
 refine y6 ?_
 intro B2
 refine AO.g ?_
 refine yc 0 28 ?_
 refine wd 28 ?_
 refine AO.u ?_
 dsimp only[List.eraseIdx]
 refine vT (xH rfl Tryz.func109 rfl rfl rfl ha5) ?_
 refine zc (zI (zo (zD (zr ?_))))
 refine vT (xH rfl Tryz.func113 rfl rfl rfl q0L) ?_
 refine vT (O.callC rfl Tryz.func111 rfl rfl rfl (f0k [] (by simp)) (by(repeat(first|exact CoeL.nil|refine CoeL.cons Coe.nil ?_));done)) ?_
 refine zb ?_
 refine vT (xH rfl Tryz.func111 rfl rfl rfl (f0k _ (by omega))) ?_
 refine y6 ?_
 intro B3
 refine AO.g ?_
 refine yc 0 34 ?_
 refine wd 34 ?_
 refine AO.u ?_
 dsimp only[List.eraseIdx]
 refine vT (xH rfl Tryz.func109 rfl rfl rfl ha3) ?_
 refine zc ?_
 refine zc (zI (zo (xc ?_)))
 refine xJ
theorem u0C (a:UInt8):Go.bits .xor .u8 (a.toNat:Int) 54=((a^^^54).toNat:Int):=c0L (p:=fun a=>Go.bits .xor .u8 (a.toNat:Int) 54=((a^^^54).toNat:Int)) (by decide +kernel) a
theorem u0B (a:UInt8):Go.bits .xor .u8 (a.toNat:Int) 92=((a^^^92).toNat:Int):=c0L (p:=fun a=>Go.bits .xor .u8 (a.toNat:Int) 92=((a^^^92).toNat:Int)) (by decide +kernel) a
theorem e0O (l:List (List UInt8))(k:Nat):(l.take k).flatten.length≤l.flatten.length:=by
 conv=>rhs;rw[←List.take_append_drop k l]
 rw[List.flatten_append,cH];omega
theorem g0t (l:List (List UInt8)){k:Nat}(h:k<l.length):(l.take (k+1)).flatten=(l.take k).flatten++vat l k:=by
 rw[a0g [] h,List.flatten_append];simp[vat]
theorem p0s (l:List (List UInt8))(hl:l.length≤1000000)(hf:l.flatten.length≤1000000):Sp Tryz.prog 150 [r0j l] [] (Is (roB l.flatten)):=by
 refine yN Tryz.func150 _ Tryz.ntmps150 (fun w0 R0=> ?_)
 refine zD (zr ?_)
 refine zc (zI (zo (zD (zr ?_))))
 refine zc (zI (zo (zD (zD (zr ?_)))))
 refine zb ?_
 refine zW ?_
 refine zb (zI (zo (xj ?_)))
 refine AW.g ?_
 refine G.nilRow 5 1 ?_
 refine AW.u ?_
 refine zh [(6,_),(7,_)] (fun nn E H=> ∃(k:Nat) (V:Value),(k≤l.length)∧(V.oneCell'=true)∧nn=l.length-k∧E= [(3,.val V),(8,.val (.int .i64 (k:Int)))]∧H= [.row V 5 1 (l.take k).flatten.length (a0a (l.take k).flatten)]) _ (⟨0,_,by omega,rfl,rfl,rfl,rfl⟩) ?_
 rintro nn E H ⟨k,V,hk,hV,rfl,rfl,rfl⟩
 dsimp only[cA,cN]
 have hkl:=e0O l k
 refine zD (zr ?_)
 refine zP (zI (zo (zD ?_)))
 refine yk (fun hlt=> ?_) (fun hlt=> ?_)<;>(try simp only[vX]at hlt)
 ·have hs:=g0t l (k:=k) (by omega)
  have hkl2:=e0O l (k+1)
  rw[hs,cH]at hkl2
  refine yX (zo (zD (xj (zD (zr ?_)))))
  refine z8 ?_
  refine vT (O.loadR rfl rfl (by exact e0P (k:=k) (by omega) (by omega))) ?_
  refine zc (zI (zo (zr ?_)))
  refine zb ?_
  refine zb ?_
  refine zH 0 ?_
  intro V1 hV1
  refine zc (zI (xz (zo (zr ?_))))
  refine zA ?_
  refine zb (zI ?_)
  rw[show a0a (l.take k).flatten++a0a (vat l k)=a0a (l.take (k+1)).flatten by rw[hs,a0O],show(l.take k).flatten.length+(vat l k).length=(l.take (k+1)).flatten.length by rw[hs,cH]]
  refine zq _ _ _ (by omega) (⟨k+1,_,by omega,‹_›,rfl,rfl,rfl⟩)
 obtain rfl:k=l.length:=by omega
 rw[List.take_length]
 refine wb ?_
 refine xY ?_
 refine x3 ?_
 refine xx (zo (zD (zr ?_)))
 refine zb ?_
 refine zc (zI (zo (xc ?_)))
 refine AQ.g ?_
 refine yf 0 [2] ?_
 refine AQ.u ?_
 try dsimp only[List.map,List.eraseIdx,cA,cN]
 refine yE
theorem l0D {k:List UInt8}(h:k.length≤64):r0Z k=k++List.replicate (64-k.length) 0:=by
 unfold r0Z
 rw[if_neg (by omega)]
theorem g0P (l:List UInt8)(c:UInt8){k:Nat}(h:k<l.length):(l.take (k+1)).map (· ^^^c)=(l.take k).map (· ^^^c)++[bt l k^^^c]:=by
 rw[j0f h,List.map_append];rfl
theorem n0D (key b:List UInt8)(hk:key.length≤64)(hb:b.length≤900000):Sp Tryz.prog 149 [roB key,roB b] [] (Is (roB (i0X key b))):=by
 have hkb:=l0D hk
 refine yN Tryz.func149 _ Tryz.ntmps149 (fun w0 R0=> ?_)
 refine zD (zr ?_)
 refine zc (zI (zo (zD (zr ?_))))
 refine zb ?_
 refine yD ?_
 intro V1 hV1
 refine zc (zI (zo (zD (zD (zr ?_)))))
 refine zb ?_
 refine wn ?_
 refine vT (O.gtr rfl rfl rfl (by exact e0d (by omega))) (zI (zo ?_))
 refine AW.condF rfl (yX (zo (zD (xj ?_))))
 refine zh [(1,_)] (fun nn E H=> ∃(q:Nat) (V:Value) (l:List UInt8),(q≤64-key.length)∧(V.oneCell'=true)∧(l=key++List.replicate q 0)∧nn=64-key.length-q∧E= [(5,.val V)]∧H= [.row V 5 1 l.length (a0a l)]) _ (⟨0,_,key,by omega,‹_›,by simp,rfl,rfl,rfl⟩) ?_
 rintro nn E H ⟨q,V,l,hq,hV,hl,rfl,rfl,rfl⟩
 dsimp only[cA,cN]
 have hll:l.length=key.length+q:=by rw[hl];simp
 refine zD (zD (zr ?_))
 refine zb ?_
 refine wn ?_
 refine zP (zI (zo ?_))
 refine yk (fun h1=> ?_) (fun h1=> ?_)<;>(try simp only[vX]at h1)
 ·have hgu:a0a (l++[0])=a0a l++[.val (.int .u8 0)]:=b0s l 0
  have hgl:(l++[0]).length=l.length+1:=by simp
  refine yX (zo (xj (zr ?_)))
  refine zb ?_
  refine zQ ?_
  intro B2
  refine AO.g ?_
  refine yc 0 21 ?_
  refine wd 21 ?_
  refine AO.u ?_
  dsimp only[List.eraseIdx]
  refine yi 0 ?_
  intro V3 hV3
  refine zc (zI (xz ?_))
  rw[show a0a l++_=_ from hgu.symm,←hgl]
  refine zq _ _ _ (by omega) (⟨q+1,_,l++[0],by omega,‹_›,by rw[hl,List.replicate_succ',List.append_assoc],rfl,rfl,rfl⟩)
 obtain⟨K,hK⟩: ∃K,K=r0Z key:=⟨_,rfl⟩
 have hlK:l=K:=by rw[hK,hkb,hl,show 64-key.length=q by omega]
 have hKl:K.length=64:=by rw[hK];exact p0t key
 have hmac0:i0X key b=sha (K.map (· ^^^92)++sha (K.map (· ^^^54)++b)):=by rw[hK];rfl
 rw[hmac0]
 subst hlK
 refine AW.g ?_
 refine yf 0 [5] ?_
 refine AW.u ?_
 try dsimp only[List.map,List.eraseIdx,cA,cN]
 refine wb ?_
 refine xY ?_
 refine x3 ?_
 refine xx (zo (zD (zr ?_)))
 refine zc ?_
 refine zc (zI (zo (zD (zD (zr ?_)))))
 refine zb ?_
 refine zW ?_
 refine zb (zI (zo (xj ?_)))
 refine AW.g ?_
 refine G.nilRow 5 1 ?_
 refine AW.u ?_
 refine AW.g ?_
 refine G.nilRow 5 1 ?_
 refine AW.u ?_
 refine zh [(1,_),(23,_),(24,_)] (fun nn E H=> ∃(i:Nat) (V V':Value),(i≤64)∧(V.oneCell'=true)∧(V'.oneCell'=true)∧nn=64-i∧E= [(6,.val V),(7,.val V'),(25,.val (.int .i64 (i:Int)))]∧H= [.row V 5 1 i (a0a ((l.take i).map (· ^^^54))),.row V' 5 1 i (a0a ((l.take i).map (· ^^^92)))]) _ (⟨0,.slice none 0 0,.slice none 0 0,by omega,rfl,rfl,rfl,rfl,rfl⟩) ?_
 rintro nn E H ⟨i,V,V',hi,hV,hV',rfl,rfl,rfl⟩
 dsimp only[cA,cN]
 refine zD (zr ?_)
 refine zP (zI (zo (zD ?_)))
 refine yk (fun h2=> ?_) (fun h2=> ?_)<;>(try simp only[vX]at h2)
 ·have hil:i<l.length:=by omega
  have h5:=g0P l 54 hil
  have h9:=g0P l 92 hil
  have g5:a0a ((l.take i).map (· ^^^54))++[.val (.int .u8 (((bt l i)^^^54).toNat:Int))]=a0a ((l.take (i+1)).map (· ^^^54)):=by rw[h5];exact(b0s _ _).symm
  have g9:a0a ((l.take i).map (· ^^^92))++[.val (.int .u8 (((bt l i)^^^92).toNat:Int))]=a0a ((l.take (i+1)).map (· ^^^92)):=by rw[h9];exact(b0s _ _).symm
  refine yX (zo (zD (xj (zD (zr ?_)))))
  refine z8 ?_
  refine vT vx ?_
  refine zc (zI (zo (zr ?_)))
  refine zb ?_
  refine zb ?_
  refine vT (O.xor_ rfl rfl rfl (u0C _)) ?_
  refine zQ ?_
  intro B4
  refine AO.g ?_
  refine yc 0 32 ?_
  refine wd 32 ?_
  refine AO.u ?_
  dsimp only[List.eraseIdx]
  refine yi 0 ?_
  intro V5 hV5
  refine zb ?_
  refine zb ?_
  refine vT (O.xor_ rfl rfl rfl (u0B _)) ?_
  refine zQ ?_
  intro B6
  refine AO.g ?_
  refine yc 0 37 ?_
  refine wd 37 ?_
  refine AO.u ?_
  dsimp only[List.eraseIdx]
  refine yi 1 ?_
  intro V7 hV7
  refine zc ?_
  refine zc (zI (xz (zo (zr ?_))))
  refine zA ?_
  refine zb (zI ?_)
  rw[show a0a ((l.take i).map (· ^^^54))++_=_ from g5,show a0a ((l.take i).map (· ^^^92))++_=_ from g9]
  refine zq _ _ _ (by omega) (⟨i+1,V5,V7,by omega,hV5,hV7,rfl,rfl,rfl⟩)
 obtain rfl:i=64:=by omega
 rw[List.take_of_length_le (by omega)]
 have l5:(l.map (· ^^^54)).length=64:=by rw[List.length_map];omega
 have l9:(l.map (· ^^^92)).length=64:=by rw[List.length_map];omega
 generalize l.map (· ^^^54)=X at*
 generalize l.map (· ^^^92)=Y at*
 have hshl:(sha (X++b)).length=32:=h0i _
 have e43:AV.ro false (64+b.length) (a0a X++a0a b)=roB (X++b):=by rw[←l5,←List.length_append,←a0O];rfl
 have e45:AV.ro false (64+(sha (X++b)).length) (a0a Y++a0a (sha (X++b)))=roB (Y++sha (X++b)):=by rw[←l9,←List.length_append,←a0O];rfl
 refine wb ?_
 refine xY ?_
 refine x3 ?_
 refine xx (zo (zD (zr ?_)))
 refine zb ?_
 refine zb ?_
 refine zb ?_
 refine AO.append' (i:=0) rfl rfl rfl rfl (by rfl) (by rfl) rfl rfl rfl (by exact SrcA.ro TyD.ax (by(simp;done)) (lB rfl)) (by(simp[AV.cells,AV.one, *];done)) (by(unfold maxLen;omega)) (by omega) (by(dsimp only[List.set,List.append,cA,cN,a0r,a0q,a0d,a0n,AV.cells,List.map,List.map_cons,List.map_nil,List.take,List.drop,Nat.zero_add,Nat.add_zero,Nat.reduceAdd,Nat.reduceMul,Nat.zero_mul,Value.cells,List.toList_toArray,a0p,List.replicate,List.flatten,cP];done)) (fun _=>by(dsimp only[List.set];done)) ?_
 intro V8 hV8
 refine AO.g ?_
 refine yH 0 [43] ?_
 refine AO.u ?_
 dsimp only[List.map,List.eraseIdx,cA,cN]
 rw[e43]
 refine vT (xH rfl Tryz.func176 rfl rfl rfl (q0c _ (by(simp only[cH,List.length_map,h0i];omega)))) ?_
 refine yi 0 ?_
 intro V9 hV9
 refine AO.g ?_
 refine yH 0 [45] ?_
 refine AO.u ?_
 dsimp only[List.map,List.eraseIdx,cA,cN]
 rw[e45]
 refine vT (xH rfl Tryz.func176 rfl rfl rfl (q0c _ (by(simp only[cH,List.length_map,h0i];omega)))) ?_
 refine zc (zI (zo (xc ?_)))
 refine yE
theorem l0I (key b:List UInt8)(hk:key.length≤64)(hb:b.length≤900000):Sp Tryz.prog 104 [roB key,roB b] [] (Is (roB (i0X key b))):=by
 refine yN Tryz.func104 _ Tryz.ntmps104 (fun w0 R0=> ?_)
 refine zD (zr ?_)
 refine zc (zI (zo (zD (zr ?_))))
 refine zb ?_
 refine zb ?_
 refine vT (xH rfl Tryz.func149 rfl rfl rfl (n0D _ _ (by omega) (by omega))) ?_
 refine zc (zI (zo (xc ?_)))
 refine yE
theorem f0R (prk info:List UInt8)(n:Nat)(hp:prk.length≤64)(hi:info.length≤100000)(hn:n≤8160):Sp Tryz.prog 105 [roB prk,roB info,.val (.int .i64 (n:Int))] [] (Is (.tup [roB (d0C prk info n),.val (.int .i64 0)])):=by
 refine yN Tryz.func105 _ Tryz.ntmps105 (fun w0 R0=> ?_)
 refine zD (zr ?_)
 refine zc ?_
 refine zc (zI (zo (zD (zD (zr ?_)))))
 refine zb ?_
 refine vT (O.lss rfl rfl rfl (by exact e0d (by omega))) ?_
 refine zb ?_
 refine zb ?_
 refine vT (O.gtr rfl rfl rfl (by exact e0d (by omega))) ?_
 refine vT (O.pickF rfl rfl rfl) (zI (zo ?_))
 refine AW.condF rfl (yX (zo (zD (zr ?_))))
 refine zc ?_
 refine zc (zI (zo (zD (zD (zr ?_)))))
 refine zc (zI (zo (xj ?_)))
 refine AW.g ?_
 refine G.nilRo 9 rfl ?_
 refine AW.u ?_
 try dsimp only[List.map,List.eraseIdx,cA,cN]
 refine AW.g ?_
 refine G.nilRow 5 1 ?_
 refine AW.u ?_
 refine zh [(0,_),(1,_),(2,_)] (fun nn E H=> ∃(k:Nat) (V:Value),(k≤(n+31)/32)∧(V.oneCell'=true)∧nn=(n+31)/32-k∧E= [(8,.val V),(9,roB (j0G prk info k)),(10,.val (.int .i64 ((k:Int)+1)))]∧H= [.row V 5 1 (c0s prk info k).length (a0a (c0s prk info k))]) _ (⟨0,_,by omega,rfl,rfl,rfl,rfl⟩) ?_
 rintro nn E H ⟨k,V,hk,hV,rfl,rfl,rfl⟩
 dsimp only[cA,cN]
 have hal:=e0C prk info k
 have htl:(j0G prk info k).length≤32:=by
  cases k with
  |zero=>simp[j0G]
  |succ k=>rw[h0H];omega
 refine zD (zD (zr ?_))
 refine zb ?_
 refine wn ?_
 refine zb ?_
 refine zP (zI (zo ?_))
 refine yk (fun h1=> ?_) (fun h1=> ?_)<;>(try simp only[vX]at h1)
 ·have hjn:Sp Tryz.prog 150 [.ro false 3 [roB (j0G prk info k),roB info,.ro false 1 [.val (.int .u8 ((u8 ((k:Int)+1)).toNat:Int))]]] [] (Is (roB (j0G prk info k++info++[UInt8.ofNat (k+1)]))):=by
   have h:=p0s [j0G prk info k,info,[u8 ((k:Int)+1)]] (by simp) (by simp;omega)
   rw[show [j0G prk info k,info,[u8 ((k:Int)+1)]].flatten=j0G prk info k++info++[UInt8.ofNat (k+1)] by rw[k0B];simp]at h
   exact h
  have hhm:Sp Tryz.prog 149 [roB prk,roB (j0G prk info k++info++[UInt8.ofNat (k+1)])] [] (Is (roB (j0G prk info (k+1)))):=n0D _ _ hp (by simp;omega)
  have hst:=f0S prk info k
  have hsl:(c0s prk info (k+1)).length=(c0s prk info k).length+(j0G prk info (k+1)).length:=by rw[hst,cH]
  have htl2:=h0H prk info k
  refine yX (zo (zD (xj (zD (zr ?_)))))
  refine zb ?_
  refine zb ?_
  refine zb ?_
  refine zb ?_
  refine xa ?_
  refine zQ ?_
  intro B1
  refine AO.g ?_
  refine yc 0 28 ?_
  refine wd 28 ?_
  refine AO.u ?_
  dsimp only[List.eraseIdx]
  refine y6 ?_
  intro B2
  refine AO.g ?_
  refine yc 0 29 ?_
  refine wd 29 ?_
  refine AO.u ?_
  dsimp only[List.eraseIdx]
  refine vT (xH rfl Tryz.func150 rfl rfl rfl hjn) ?_
  refine vT (xH rfl Tryz.func149 rfl rfl rfl hhm) ?_
  refine zc (zI (zo (zr ?_)))
  refine zb ?_
  refine zb ?_
  refine zx 0 ?_
  intro V3 hV3
  refine zc (zI (xz (zo (zr ?_))))
  refine zb ?_
  refine zA ?_
  refine zc (zI ?_)
  rw[show a0a (c0s prk info k)++_=a0a (c0s prk info (k+1)) by rw[hst,a0O],←hsl]
  refine zq _ _ _ (by omega) (⟨k+1,_,by omega,‹_›,rfl,rfl,rfl⟩)
 have hke:k=(n+31)/32:=by omega
 have hex:d0C prk info n=(c0s prk info k).take n:=by rw[hke];rfl
 rw[hex]
 generalize c0s prk info k=o at*
 refine AW.g ?_
 refine yf 0 [8] ?_
 refine AW.u ?_
 try dsimp only[List.map,List.eraseIdx,cA,cN]
 refine wb ?_
 refine xY ?_
 refine x3 ?_
 refine xx (zo (zD (zr ?_)))
 refine zb ?_
 refine zb ?_
 refine vT (O.sliceToB (k:=n) rfl rfl rfl (by rfl) (by omega)) ?_
 refine zc ?_
 refine zc (zI (zo (xc ?_)))
 refine xJ
structure Inp where
 sec:List UInt8
 salt:List UInt8
 has:Bool
 ctx:List UInt8
 snd:List UInt8
 rcp:List UInt8
abbrev cI (x:Inp):List AV:= [roB x.sec,roB x.salt,.val (.bool x.has),roB x.ctx,roB x.snd,roB x.rcp]
abbrev u0i (x:Inp):AV:= .agg (cI x)
structure Cx where
 inp:Inp
 sk:List UInt8
 rk:List UInt8
 com:List UInt8
abbrev cX (c:Cx):List AV:= [roB c.inp.sec,roB c.inp.salt,.val (.bool c.inp.has),roB c.inp.ctx,roB c.inp.snd,roB c.inp.rcp,roB c.sk,roB c.rk,roB c.com]
abbrev g0p (c:Cx):AV:= .agg (cX c)
def Inp.none:Inp:=⟨[],[],false,[],[],[]⟩
def Cx.none:Cx:=⟨Inp.none,[],[],[]⟩
abbrev e0J (x:Inp):Prop:=(1≤x.sec.length∧x.sec.length≤64∧x.salt.length≤64∧x.ctx.length≤16∧(x.has=true∨x.ctx.length=0))∧x.snd.length≤7∧x.rcp.length≤7∧ ¬x.snd=x.rcp
abbrev d0D (c:Cx):Prop:=e0J c.inp∧c.sk.length=16∧c.rk.length=16∧c.com.length=13
theorem t0J {x:Inp}(h: ¬e0J x):false=decide (e0J x):=(decide_eq_false h).symm
theorem t0L {x:Inp}(h:1≤x.sec.length∧x.sec.length≤64∧x.salt.length≤64∧x.ctx.length≤16∧(x.has=true∨x.ctx.length=0)):
  (decide ((x.snd.length:Int)≤7)&&decide ((x.rcp.length:Int)≤7)&&(f0s x.snd).toList !=(f0s x.rcp).toList)=decide (e0J x):=by
 rw[Bool.eq_iff_iff,Bool.and_eq_true,Bool.and_eq_true,cQ,cQ,cQ,bne_iff_ne,ne_eq,a0R,a0R]
 constructor
 ·rintro⟨⟨h1,h2⟩,h3⟩
  exact⟨h,by omega,by omega,h3⟩
 rintro⟨-,h1,h2,h3⟩
 exact⟨⟨by omega,by omega⟩,h3⟩
theorem t0K {x:Inp}:(decide (1≤(x.sec.length:Int))&&decide ((x.sec.length:Int)≤64)&&decide ((x.salt.length:Int)≤64)&&decide ((x.ctx.length:Int)≤16)&&(x.has||((x.ctx.length:Int)==0))&&decide ((x.snd.length:Int)≤7)&&decide ((x.rcp.length:Int)≤7)&& !(x.snd==x.rcp))=decide (e0J x):=by
 rw[Bool.eq_iff_iff]
 simp only[Bool.and_eq_true,Bool.or_eq_true,cQ,beq_iff_eq,Bool.not_eq_true',beq_eq_false_iff_ne,ne_eq]
 constructor
 ·rintro⟨⟨⟨⟨⟨⟨⟨h1,h2⟩,h3⟩,h4⟩,h5⟩,h6⟩,h7⟩,h8⟩
  exact⟨⟨by omega,by omega,by omega,by omega,h5.imp id (fun h=>by omega)⟩,by omega,by omega,h8⟩
 rintro⟨⟨h1,h2,h3,h4,h5⟩,h6,h7,h8⟩
 exact⟨⟨⟨⟨⟨⟨⟨by omega,by omega⟩,by omega⟩,by omega⟩,h5.imp id (fun h=>by omega)⟩,by omega⟩,by omega⟩,h8⟩
theorem l0M (x:Inp):Sp Tryz.prog 76 [u0i x] [] (Is (.val (.bool (decide (e0J x))))):=by
 refine yN Tryz.func76 _ Tryz.ntmps76 (fun w0 R0=> ?_)
 refine zD (zr ?_)
 refine ye ?_
 intro B1
 refine zc (zI (zo (zD (zD (zr ?_)))))
 refine zt ?_
 refine zy ?_
 refine zW ?_
 refine zP ?_
 refine zb ?_
 refine zM ?_
 refine zv 8 ?_
 refine yb 9 ?_
 refine yp 10 ?_
 refine zE ?_
 refine zb ?_
 refine zM ?_
 refine zv 14 ?_
 refine yb 15 ?_
 refine yp 16 ?_
 refine zE ?_
 refine zb ?_
 refine zM ?_
 refine zv 20 ?_
 refine yb 21 ?_
 refine yp 22 ?_
 refine zE ?_
 refine zb ?_
 refine zM ?_
 refine zv 26 ?_
 refine yZ 27 ?_
 refine wP 28 ?_
 refine zM ?_
 refine zv 30 ?_
 refine yb 31 ?_
 refine yp 32 ?_
 refine va 29 ?_
 refine zE (zI (zo ?_))
 refine yk (fun h35=> ?_) (fun h35=> ?_)<;>(try simp only[vX]at h35)
 ·have e:=t0J (x:=x) (by
   rintro⟨⟨h1,h2,h3,h4,h5⟩, -⟩
   rcases h35 with(((h|h)|h)|h)|⟨h,h'⟩
   ·omega
   ·omega
   ·omega
   ·omega
   rcases h5 with h5|h5
   ·rw[h]at h5;cases h5
   omega)
  refine zD (zr ?_)
  refine zc (zI (zo (xc (xr ?_))))
  refine vu rfl rfl nS (⟨congrArg (fun z=>AV.val (.bool z)) e,rfl⟩)
 have e:=t0L (x:=x) (by
  obtain⟨⟨⟨⟨h1,h2⟩,h3⟩,h4⟩,h5⟩:=h35
  refine⟨by omega,by omega,by omega,by omega,?_⟩
  cases hh:x.has with
  |true=>exact .inl rfl
  |false=>have:=h5 hh;exact .inr (by omega))
 refine yX (zo (zD (zr ?_)))
 refine zt ?_
 refine zy ?_
 refine zW ?_
 refine vN ?_
 refine zb ?_
 refine zM ?_
 refine zv 41 ?_
 refine yb 42 ?_
 refine xF 43 ?_
 refine zV ?_
 refine zb ?_
 refine zM ?_
 refine zv 47 ?_
 refine AO.opG rfl rfl rfl (fun hp=>wW 48 rfl (by exact hp) (O.convS rfl rfl (by rfl))) ?_
 refine zM ?_
 refine zv 50 ?_
 refine AO.opG rfl rfl rfl (fun hp=>wW 51 rfl (by exact hp) (O.convS rfl rfl (by rfl))) ?_
 refine AO.opG rfl rfl rfl (fun hp=>wW 49 rfl (by exact hp) (wW 52 rfl (by exact hp) (O.neqS rfl rfl rfl (by rfl)))) ?_
 refine zV ?_
 refine zc (zI (zo (xc ?_)))
 refine vu rfl rfl nS (⟨congrArg (fun z=>AV.val (.bool z)) e,rfl⟩)
theorem g0C (x:Inp):Sp Tryz.prog 77 [u0i x] [] (Is (.val (.bool (decide (e0J x))))):=by
 have e:=t0K (x:=x)
 refine yN Tryz.func77 _ Tryz.ntmps77 (fun w0 R0=> ?_)
 refine zD (zr ?_)
 refine ye ?_
 intro B1
 refine zc (zI (zo (zD (zr ?_))))
 refine zt ?_
 refine zy ?_
 refine zW ?_
 refine ww ?_
 refine zb ?_
 refine zM ?_
 refine zv 8 ?_
 refine yb 9 ?_
 refine xF 10 ?_
 refine zV ?_
 refine zb ?_
 refine zM ?_
 refine zv 14 ?_
 refine yb 15 ?_
 refine xF 16 ?_
 refine zV ?_
 refine zb ?_
 refine zM ?_
 refine zv 20 ?_
 refine yb 21 ?_
 refine xF 22 ?_
 refine zV ?_
 refine zb ?_
 refine zM ?_
 refine zv 26 ?_
 refine wP 27 ?_
 refine zM ?_
 refine zv 29 ?_
 refine yb 30 ?_
 refine y8 31 ?_
 refine AO.opG rfl rfl rfl (fun hp=>wW 28 rfl (by exact hp) (O.pickOr rfl rfl rfl rfl (fun h=>by simp_all))) ?_
 refine zV ?_
 refine zb ?_
 refine zM ?_
 refine zv 36 ?_
 refine yb 37 ?_
 refine xF 38 ?_
 refine zV ?_
 refine zb ?_
 refine zM ?_
 refine zv 42 ?_
 refine yb 43 ?_
 refine xF 44 ?_
 refine zV ?_
 refine zb ?_
 refine zM ?_
 refine zv 48 ?_
 refine zM ?_
 refine zv 50 ?_
 refine AO.opG rfl rfl rfl (fun hp=>wW 49 rfl (by exact hp) (wW 51 rfl (by exact hp) (xH rfl Tryz.func31 rfl rfl rfl (b0S _ _)))) ?_
 refine yZ 52 ?_
 refine zV ?_
 refine zc (zI (zo (xc ?_)))
 refine vu rfl rfl nS (⟨congrArg (fun z=>AV.val (.bool z)) e,rfl⟩)
theorem v0T {c:Cx}:(decide (e0J c.inp)&&((c.sk.length:Int)==16)&&((c.rk.length:Int)==16)&&((c.com.length:Int)==13))=decide (d0D c):=by
 rw[Bool.eq_iff_iff]
 simp only[Bool.and_eq_true,cQ,beq_iff_eq]
 constructor
 ·rintro⟨⟨⟨h1,h2⟩,h3⟩,h4⟩
  exact⟨h1,by omega,by omega,by omega⟩
 rintro⟨h1,h2,h3,h4⟩
 exact⟨⟨⟨h1,by omega⟩,by omega⟩,by omega⟩
theorem f0C (c:Cx):Sp Tryz.prog 27 [g0p c] [] (Is (.val (.bool (decide (d0D c))))):=by
 have e:=v0T (c:=c)
 refine yN Tryz.func27 _ Tryz.ntmps27 (fun w0 R0=> ?_)
 refine zD (zr ?_)
 refine ye ?_
 intro B1
 refine zc (zI (zo (zD (zr ?_))))
 refine zt ?_
 refine zB ?_
 refine vT (xH rfl Tryz.func76 rfl rfl rfl (l0M c.inp)) ?_
 refine zb ?_
 refine zM ?_
 refine zv 7 ?_
 refine yb 8 ?_
 refine y8 9 ?_
 refine zV ?_
 refine zb ?_
 refine zM ?_
 refine zv 13 ?_
 refine yb 14 ?_
 refine y8 15 ?_
 refine zV ?_
 refine zb ?_
 refine zM ?_
 refine zv 19 ?_
 refine yb 20 ?_
 refine y8 21 ?_
 refine zV ?_
 refine zc (zI (zo (xc ?_)))
 refine vu rfl rfl nS (⟨congrArg (fun z=>AV.val (.bool z)) e,rfl⟩)
theorem e0p (c:Cx):Sp Tryz.prog 28 [g0p c] [] (Is (.val (.bool (decide (d0D c))))):=by
 have e:=v0T (c:=c)
 refine yN Tryz.func28 _ Tryz.ntmps28 (fun w0 R0=> ?_)
 refine zD (zr ?_)
 refine ye ?_
 intro B1
 refine zc (zI (zo (zD (zr ?_))))
 refine zt ?_
 refine zB ?_
 refine vT (xH rfl Tryz.func77 rfl rfl rfl (g0C c.inp)) ?_
 refine zb ?_
 refine zM ?_
 refine zv 7 ?_
 refine yb 8 ?_
 refine y8 9 ?_
 refine zV ?_
 refine zb ?_
 refine zM ?_
 refine zv 13 ?_
 refine yb 14 ?_
 refine y8 15 ?_
 refine zV ?_
 refine zb ?_
 refine zM ?_
 refine zv 19 ?_
 refine yb 20 ?_
 refine y8 21 ?_
 refine zV ?_
 refine zc (zI (zo (xc ?_)))
 refine vu rfl rfl nS (⟨congrArg (fun z=>AV.val (.bool z)) e,rfl⟩)
def h0V (c:Cx):Cx:=⟨⟨c.inp.sec,c.inp.salt,c.inp.has,c.inp.ctx,c.inp.rcp,c.inp.snd⟩,c.rk,c.sk,c.com⟩
abbrev SmX (c:Cx):Prop:=(c.inp.sec.length≤1000000∧c.inp.salt.length≤1000000∧c.inp.ctx.length≤1000000∧c.inp.snd.length≤1000000∧c.inp.rcp.length≤1000000)∧c.sk.length≤1000000∧c.rk.length≤1000000∧c.com.length≤1000000
theorem q0X (c:Cx)(h:SmX c):Sp Tryz.prog 36 [g0p c] [] (Is (g0p (h0V c))):=by
 obtain⟨⟨h1,h2,h3,h4,h5⟩,h6,h7,h8⟩:=h
 refine yN Tryz.func36 _ Tryz.ntmps36 (fun w0 R0=> ?_)
 refine zD (zr ?_)
 refine ye ?_
 intro B1
 refine zd ?_
 intro B2
 refine zI (zo (zD ?_))
 refine yw 34 ?_
 simp only[cT,cZ,cD,cO]
 refine yr ?_
 refine yr ?_
 refine zL ?_
 refine vS (xH rfl Tryz.func69 rfl rfl rfl (a0s _ (by omega))) ?_
 refine yr ?_
 refine yr ?_
 refine zL ?_
 refine vS (xH rfl Tryz.func69 rfl rfl rfl (a0s _ (by omega))) ?_
 refine yr ?_
 refine yr ?_
 refine zL ?_
 refine yr ?_
 refine yr ?_
 refine zL ?_
 refine vS (xH rfl Tryz.func69 rfl rfl rfl (a0s _ (by omega))) ?_
 refine yr ?_
 refine yr ?_
 refine zL ?_
 refine vS (xH rfl Tryz.func69 rfl rfl rfl (a0s _ (by omega))) ?_
 refine yr ?_
 refine yr ?_
 refine zL ?_
 refine vS (xH rfl Tryz.func69 rfl rfl rfl (a0s _ (by omega))) ?_
 refine xQ ?_
 refine yr ?_
 refine zL ?_
 refine vS (xH rfl Tryz.func69 rfl rfl rfl (a0s _ (by omega))) ?_
 refine yr ?_
 refine zL ?_
 refine vS (xH rfl Tryz.func69 rfl rfl rfl (a0s _ (by omega))) ?_
 refine yr ?_
 refine zL ?_
 refine vS (xH rfl Tryz.func69 rfl rfl rfl (a0s _ (by omega))) ?_
 refine xQ ?_
 refine wZ ?_
 simp only[a0f,cN,cA,cP]
 refine za 0 (zI (zo (xc ?_)))
 refine AQ.retCell rfl rfl (by repeat(exact List.Mem.head _)) (by rfl) rfl nS (⟨rfl,rfl⟩)
def s0G (x:Inp):Cx:=⟨x,d0C (i0X x.salt x.sec) (e0y x.snd x.ctx x.has n0w 16) 16,d0C (i0X x.salt x.sec) (e0y x.rcp x.ctx x.has n0w 16) 16,d0C (i0X x.salt x.sec) (e0y [] x.ctx x.has ivT 13) 13⟩
theorem s0g {x:Inp}(h:e0J x):d0D (s0G x):=⟨h,e0B,e0B,e0B⟩
abbrev w0c (r:Cx×Int):AV:= .tup [g0p r.1,.val (.int .i64 r.2)]
def s0H (x:Inp):Cx×Int:=if e0J x then(s0G x,0)else(Cx.none,1)
theorem i0J (x:Inp):Sp Tryz.prog 54 [u0i x] [] (Is (w0c (s0H x))):=by
 refine yN Tryz.func54 _ Tryz.ntmps54 (fun w0 R0=> ?_)
 refine zD (zr ?_)
 refine ye ?_
 intro B1
 refine zd ?_
 intro B2
 refine zc (zI (zo (zD (zD (zr ?_)))))
 refine zC ?_
 refine vT (xH rfl Tryz.func77 rfl rfl rfl (g0C x)) ?_
 refine xq (zI (zo ?_))
 refine yk (fun h=> ?_) (fun h=> ?_)<;>(try simp only[vX]at h)
 ·rw[show s0H x=(Cx.none,1)from if_neg h]
  refine zD (zr ?_)
  refine zN ?_
  refine za 0 ?_
  refine zc (zI (zo (xc (xr ?_))))
  refine x8 zT zj (⟨rfl,rfl⟩)
 rw[show s0H x=(s0G x,0)from if_pos h]
 obtain⟨⟨h1,h2,h3,h4,h5⟩,h6,h7,h8⟩:=h
 have hi1:=h0n x.snd x.ctx x.has _ n0w 16 (by omega) (by omega) (by decide) (by omega) k0m
 have hi2:=h0n x.rcp x.ctx x.has _ n0w 16 (by omega) (by omega) (by decide) (by omega) k0m
 have hi3:=h0n [] x.ctx x.has _ ivT 13 (by simp) (by omega) (by decide) (by omega) o0F
 have hl:=p0x x.salt x.sec
 have g1:=f0e (id:=x.snd) (ctx:=x.ctx) (has:=x.has) (kind:=n0w) (n:=16) (by omega) (by omega) (by decide) (by omega)
 have g2:=f0e (id:=x.rcp) (ctx:=x.ctx) (has:=x.has) (kind:=n0w) (n:=16) (by omega) (by omega) (by decide) (by omega)
 have g3:=f0e (id:= []) (ctx:=x.ctx) (has:=x.has) (kind:=ivT) (n:=13) (by simp) (by omega) (by decide) (by omega)
 have he1:=f0R (i0X x.salt x.sec) (e0y x.snd x.ctx x.has n0w 16) 16 (by omega) (by omega) (by omega)
 have he2:=f0R (i0X x.salt x.sec) (e0y x.rcp x.ctx x.has n0w 16) 16 (by omega) (by omega) (by omega)
 have he3:=f0R (i0X x.salt x.sec) (e0y [] x.ctx x.has ivT 13) 13 (by omega) (by omega) (by omega)
 refine yX (zo (zD (zr ?_)))
 refine zt ?_
 refine zn ?_
 refine zt ?_
 refine zn ?_
 refine vT (xH rfl Tryz.func104 rfl rfl rfl (l0I _ _ (by omega) (by omega))) ?_
 refine zc (zI (zo (zD ?_)))
 refine yw 20 ?_
 simp only[cT,cZ,cD,cO]
 refine yr ?_
 refine zL ?_
 refine vS (xH rfl Tryz.func69 rfl rfl rfl (a0s _ (by omega))) ?_
 refine yr ?_
 refine zL ?_
 refine vS (xH rfl Tryz.func69 rfl rfl rfl (a0s _ (by omega))) ?_
 refine yr ?_
 refine zL ?_
 refine yr ?_
 refine zL ?_
 refine vS (xH rfl Tryz.func69 rfl rfl rfl (a0s _ (by omega))) ?_
 refine yr ?_
 refine zL ?_
 refine vS (xH rfl Tryz.func69 rfl rfl rfl (a0s _ (by omega))) ?_
 refine yr ?_
 refine zL ?_
 refine vS (xH rfl Tryz.func69 rfl rfl rfl (a0s _ (by omega))) ?_
 refine xQ ?_
 refine xQ ?_
 refine yV ?_
 refine wZ ?_
 simp only[a0f,cN,cA,cP]
 rintro _ _ ⟨B3,rfl,rfl⟩
 simp only[cA,cN]
 refine za 0 (zI (zo (zD (zr ?_))))
 refine zb ?_
 refine zt ?_
 refine zn ?_
 refine zt ?_
 refine zn ?_
 refine zt ?_
 refine zn ?_
 refine vT (xH rfl Tryz.func106 rfl rfl rfl hi1) ?_
 refine vT (xH rfl Tryz.func105 rfl rfl rfl he1) ?_
 refine zb ?_
 refine zO ?_
 refine zO ?_
 refine zt ?_
 refine za 0 (zI (zo (zD (zr ?_))))
 refine zb ?_
 refine zt ?_
 refine zn ?_
 refine zt ?_
 refine zn ?_
 refine zt ?_
 refine zn ?_
 refine vT (xH rfl Tryz.func106 rfl rfl rfl hi2) ?_
 refine vT (xH rfl Tryz.func105 rfl rfl rfl he2) ?_
 refine zb ?_
 refine zO ?_
 refine zO ?_
 refine zt ?_
 refine za 0 (zI (zo (zD (zr ?_))))
 refine zb ?_
 refine zt ?_
 refine zn ?_
 refine zt ?_
 refine zn ?_
 refine vT (O.callC rfl Tryz.func106 rfl rfl rfl hi3 (by(repeat(first|exact CoeL.nil|refine CoeL.cons Coe.rfl ?_|refine CoeL.cons Coe.nil ?_));done)) ?_
 refine vT (xH rfl Tryz.func105 rfl rfl rfl he3) ?_
 refine zb ?_
 refine zO ?_
 refine zO ?_
 refine zt ?_
 refine za 0 (zI (zo (zD (zr ?_))))
 refine zB ?_
 refine za 1 ?_
 refine zc (zI (zo (xc ?_)))
 refine AQ.retCT rfl rfl rfl mM (by(dsimp only[List.set,cA,cN,List.take,List.drop];rfl)) rfl nS (⟨rfl,rfl⟩)
end Go.Proofs.YtojomcdjcpmnkaaGreat.By
namespace Go.Proofs.YtojomcdjcpmnkaaGreat.By
open Go.RowKit L A Dk
attribute [local irreducible] AW AQ AO
def beVal (l:List UInt8):Nat:=l.foldl (fun n x=>n*256+x.toNat) 0
theorem d0o (l:List UInt8)(x:UInt8):beVal (l++[x])=beVal l*256+x.toNat:=by simp[beVal,List.foldl_append]
theorem p0R: ∀(k:Nat) (l:List UInt8),l.length=k→beVal l<256^k:=by
 intro k
 induction k with
 |zero=>intro l h;rw[List.eq_nil_of_length_eq_zero h];decide
 |succ k ih=>
  intro l h
  have hne:l≠ []:=by intro e;subst e;simp at h
  obtain⟨r,x,rfl⟩: ∃r x,l=r++[x]:=⟨l.dropLast,l.getLast hne,(List.dropLast_concat_getLast hne).symm⟩
  have h1:=ih r (by simp at h;exact h)
  have h2:=x.toNat_lt
  rw[d0o,Nat.pow_succ];omega
def d0j (b:List UInt8):Int×Int:=if b.length=0 then(0,2)else if 5<b.length then(0,8)else if 1<b.length∧bt b 0=0 then(0,4)else((beVal b:Int),0)
theorem n0p (b:List UInt8):Sp Tryz.prog 129 [roB b] [] (Is (.tup [.val (.int .i64 (d0j b).1),.val (.int .i64 (d0j b).2)])):=by
 refine yN Tryz.func129 _ Tryz.ntmps129 (fun w0 R0=> ?_)
 refine zD (zr ?_)
 refine zc ?_
 refine zc (zI (zo (zD (xj (zD (zr ?_))))))
 refine zb ?_
 refine zW ?_
 refine z9 ?_
 refine zc (zI (zo ?_))
 refine yk (fun h=> ?_) (fun h=> ?_)<;>(try simp only[vX]at h)
 ·have e:d0j b=(0,2):=by unfold d0j;rw[if_pos (by omega)]
  rw[e]
  refine zD (zr ?_)
  refine zc ?_
  refine zc (zI (zo (xc ?_)))
  refine wi (xr ?_)
  refine xJ
 refine zD (zr ?_)
 refine zb ?_
 refine zW ?_
 refine yS ?_
 refine zc (zI (zo ?_))
 refine yk (fun h2=> ?_) (fun h2=> ?_)<;>(try simp only[vX]at h2)
 ·have e:d0j b=(0,8):=by unfold d0j;rw[if_neg (by omega),if_pos (by omega)]
  rw[e]
  refine zD (zr ?_)
  refine zc ?_
  refine zc (zI (zo (xc ?_)))
  refine wi (xr ?_)
  refine xJ
 refine zD (zr ?_)
 refine zb ?_
 refine zW ?_
 refine yS ?_
 refine zb ?_
 refine yt ?_
 refine AO.opG rfl rfl rfl (fun hp=>wW 20 rfl (by exact hp) z6) ?_
 refine AO.opG rfl rfl rfl (fun hp=>wW 21 rfl (by exact hp) (O.loadR rfl rfl (by exact b0d (k:=0) (by omega) rfl))) ?_
 refine y8 22 ?_
 refine zV ?_
 refine zc (zI (zo ?_))
 refine yk (fun h3=> ?_) (fun h3=> ?_)<;>(try simp only[vX]at h3)
 ·have e:d0j b=(0,4):=by unfold d0j;rw[if_neg (by omega),if_neg (by omega),if_pos ⟨by omega,u8_eq.1 (by simpa using h3.2)⟩]
  rw[e]
  refine zD (zr ?_)
  refine zc ?_
  refine zc (zI (zo (xc ?_)))
  refine wi (xr ?_)
  refine xJ
 have e:d0j b=((beVal b:Int),0):=by
  unfold d0j
  rw[if_neg (by omega),if_neg (by omega),if_neg]
  rintro⟨h4,h5⟩
  exact h3 (by omega) (by rw[h5];rfl)
 rw[e]
 refine yX (xz (zo (zD (zr ?_))))
 refine zc (zI (zo (zD (zD (zr ?_)))))
 refine zb ?_
 refine zW ?_
 refine zb (zI (zo (xj ?_)))
 refine vD [(25,_),(26,_)] (fun nn E H=> ∃(k:Nat),(k≤b.length)∧(beVal (b.take k)<256^k)∧nn=b.length-k∧E= [(4,.val (.int .i64 (beVal (b.take k):Int))),(27,.val (.int .i64 (k:Int)))]∧H= []) _ (⟨0,by omega,by simp[beVal],rfl,rfl,rfl⟩) ?_
 rintro nn E H ⟨k,h1,hv,rfl,rfl,rfl⟩
 dsimp only[cA,cN]
 refine zD (zr ?_)
 refine zP (zI (zo (zD ?_)))
 refine yk (fun hlt=> ?_) (fun hlt=> ?_)<;>(try simp only[vX]at hlt)
 ·have hlt':k<b.length:=by omega
  have hx:=b0u (bt b k)
  have hv2:beVal (b.take k)<4294967296:=Nat.lt_of_lt_of_le hv (Nat.le_trans (Nat.pow_le_pow_right (by decide) (show k≤4 by omega)) (by decide))
  have hs:beVal (b.take (k+1))=beVal (b.take k)*256+(bt b k).toNat:=by rw[j0f hlt',d0o]
  refine yX (zo (zD (xj (zD (zr ?_)))))
  refine z8 ?_
  refine vT vx ?_
  refine zc (zI (zo (zr ?_)))
  refine zb ?_
  refine vT (O.shlK 8 256 rfl rfl rfl rfl (by rfl) (by exact e0h (by omega))) ?_
  refine zb ?_
  refine xO ?_
  refine vT (O.or_ rfl rfl rfl (n0i 8 (m:=256) (by decide) (by omega) (by omega))) ?_
  refine zc (zI (xz (zo (zr ?_))))
  refine zA ?_
  refine zb (zI ?_)
  refine vl _ _ _ (by omega) (⟨k+1,by omega,by rw[hs,Nat.pow_succ];omega,rfl,by rw[hs,Int.natCast_add,Int.natCast_mul],rfl⟩)
 obtain rfl:k=b.length:=by omega
 rw[List.take_length]
 refine wb ?_
 refine xY ?_
 refine x3 ?_
 refine xx (zo (zD (zr ?_)))
 refine zb ?_
 refine zc ?_
 refine zc (zI (zo (xc ?_)))
 refine xJ
theorem l0l (b:List UInt8):Sp Tryz.prog 130 [roB b] [] (Is (.tup [.val (.int .i64 (d0j b).1),.val (.int .i64 (d0j b).2)])):=by
 refine yN Tryz.func130 _ Tryz.ntmps130 (fun w0 R0=> ?_)
 refine zD (zr ?_)
 refine zc ?_
 refine zc (zI (zo (zD (xj (zD (zr ?_))))))
 refine zb ?_
 refine zW ?_
 refine z9 ?_
 refine zc (zI (zo ?_))
 refine yk (fun h=> ?_) (fun h=> ?_)<;>(try simp only[vX]at h)
 ·have e:d0j b=(0,2):=by unfold d0j;rw[if_pos (by omega)]
  rw[e]
  refine zD (zr ?_)
  refine zc ?_
  refine zc (zI (zo (xc ?_)))
  refine wi (xr ?_)
  refine xJ
 refine zD (zr ?_)
 refine zb ?_
 refine zW ?_
 refine yS ?_
 refine zc (zI (zo ?_))
 refine yk (fun h2=> ?_) (fun h2=> ?_)<;>(try simp only[vX]at h2)
 ·have e:d0j b=(0,8):=by unfold d0j;rw[if_neg (by omega),if_pos (by omega)]
  rw[e]
  refine zD (zr ?_)
  refine zc ?_
  refine zc (zI (zo (xc ?_)))
  refine wi (xr ?_)
  refine xJ
 refine zD (zr ?_)
 refine zb ?_
 refine zW ?_
 refine yS ?_
 refine zb ?_
 refine yt ?_
 refine AO.opG rfl rfl rfl (fun hp=>wW 20 rfl (by exact hp) z6) ?_
 refine AO.opG rfl rfl rfl (fun hp=>wW 21 rfl (by exact hp) (O.loadR rfl rfl (by exact b0d (k:=0) (by omega) rfl))) ?_
 refine y8 22 ?_
 refine zV ?_
 refine zc (zI (zo ?_))
 refine yk (fun h3=> ?_) (fun h3=> ?_)<;>(try simp only[vX]at h3)
 ·have e:d0j b=(0,4):=by unfold d0j;rw[if_neg (by omega),if_neg (by omega),if_pos ⟨by omega,u8_eq.1 (by simpa using h3.2)⟩]
  rw[e]
  refine zD (zr ?_)
  refine zc ?_
  refine zc (zI (zo (xc ?_)))
  refine wi (xr ?_)
  refine xJ
 have e:d0j b=((beVal b:Int),0):=by
  unfold d0j
  rw[if_neg (by omega),if_neg (by omega),if_neg]
  rintro⟨h4,h5⟩
  exact h3 (by omega) (by rw[h5];rfl)
 rw[e]
 refine yX (xz (zo (zD (zr ?_))))
 refine zc (zI (zo (zD (zD (zr ?_)))))
 refine zb ?_
 refine zW ?_
 refine zb (zI (zo (xj ?_)))
 refine vD [(25,_),(26,_)] (fun nn E H=> ∃(k:Nat),(k≤b.length)∧(beVal (b.take k)<256^k)∧nn=b.length-k∧E= [(4,.val (.int .i64 (beVal (b.take k):Int))),(27,.val (.int .i64 (k:Int)))]∧H= []) _ (⟨0,by omega,by simp[beVal],rfl,rfl,rfl⟩) ?_
 rintro nn E H ⟨k,h1,hv,rfl,rfl,rfl⟩
 dsimp only[cA,cN]
 refine zD (zr ?_)
 refine zP (zI (zo (zD ?_)))
 refine yk (fun hlt=> ?_) (fun hlt=> ?_)<;>(try simp only[vX]at hlt)
 ·have hlt':k<b.length:=by omega
  have hx:=b0u (bt b k)
  have hv2:beVal (b.take k)<4294967296:=Nat.lt_of_lt_of_le hv (Nat.le_trans (Nat.pow_le_pow_right (by decide) (show k≤4 by omega)) (by decide))
  have hs:beVal (b.take (k+1))=beVal (b.take k)*256+(bt b k).toNat:=by rw[j0f hlt',d0o]
  refine yX (zo (zD (xj (zD (zr ?_)))))
  refine z8 ?_
  refine vT vx ?_
  refine zc (zI (zo (zr ?_)))
  refine zb ?_
  refine wE ?_
  refine zb ?_
  refine xO ?_
  refine zA ?_
  refine zc (zI (xz (zo (zr ?_))))
  refine zA ?_
  refine zb (zI ?_)
  refine vl _ _ _ (by omega) (⟨k+1,by omega,by rw[hs,Nat.pow_succ];omega,rfl,by rw[hs,Int.natCast_add,Int.natCast_mul],rfl⟩)
 obtain rfl:k=b.length:=by omega
 rw[List.take_length]
 refine wb ?_
 refine xY ?_
 refine x3 ?_
 refine xx (zo (zD (zr ?_)))
 refine zb ?_
 refine zc ?_
 refine zc (zI (zo (xc ?_)))
 refine xJ
structure Cmp where
 piv:Int
 hasKid:Bool
 kid:List UInt8
 hasCtx:Bool
 ctx:List UInt8
 group:Bool
 deriving DecidableEq
abbrev o0l (c:Cmp):AV:= .agg [.val (.int .i64 c.piv),.val (.bool c.hasKid),roB c.kid,.val (.bool c.hasCtx),roB c.ctx,.val (.bool c.group)]
def i0Y (c:Cmp):Prop:=(-1≤c.piv∧c.piv≤1099511627775∧(c.kid.length:Int)≤7∧(c.ctx.length:Int)≤16)∧(c.hasKid=true∨(c.kid.length:Int)=0)∧(c.hasCtx=true∨(c.ctx.length:Int)=0)
instance (c:Cmp):Decidable (i0Y c):=by unfold i0Y;infer_instance
theorem n0T (c:Cmp):Sp Tryz.prog 160 [o0l c] [] (Is (.val (.bool (decide (i0Y c))))):=by
 obtain⟨piv,hk,kid,hc,ctx,g⟩:=c
 refine yN Tryz.func160 _ Tryz.ntmps160 (fun w0 R0=> ?_)
 refine zD (zr ?_)
 refine ye ?_
 intro B
 refine zc (zI (zo (zD (zD (zr ?_)))))
 refine zt ?_
 refine zy ?_
 refine zP ?_
 refine zb ?_
 refine zM ?_
 refine zv 7 ?_
 refine yp 8 ?_
 refine zE ?_
 refine zb ?_
 refine zM ?_
 refine zv 12 ?_
 refine yb 13 ?_
 refine yp 14 ?_
 refine zE ?_
 refine zb ?_
 refine zM ?_
 refine zv 18 ?_
 refine yb 19 ?_
 refine yp 20 ?_
 refine zE (zI (zo ?_))
 refine yk (fun h=> ?_) (fun h=> ?_)<;>(try simp only[vX]at h)
 ·have e:decide (i0Y ⟨piv,hk,kid,hc,ctx,g⟩)=false:=decide_eq_false fun hv=>by
   obtain⟨⟨a1,a2,a3,a4⟩, -⟩:=hv
   simp only at*
   omega
  refine zD (zr ?_)
  refine zc (zI (zo (xc (xr ?_))))
  refine vu rfl rfl nS (⟨congrArg (fun z=>AV.val (.bool z)) e.symm,rfl⟩)
 refine yX (zo (zD (zr ?_)))
 refine zt ?_
 refine zy ?_
 refine zb ?_
 refine zM ?_
 refine zv 26 ?_
 refine yb 27 ?_
 refine y8 28 ?_
 refine zE ?_
 refine zb ?_
 refine zM ?_
 refine zv 32 ?_
 refine wP 33 ?_
 refine zM ?_
 refine zv 35 ?_
 refine yb 36 ?_
 refine y8 37 ?_
 refine AO.opG rfl rfl rfl (fun hp=>wW 34 rfl (by exact hp) (O.pickOr rfl rfl rfl rfl (fun h=>by simp_all))) ?_
 refine zV ?_
 refine zc (zI (zo (xc ?_)))
 have e:decide (i0Y ⟨piv,hk,kid,hc,ctx,g⟩)=((hk||((kid.length:Int)==0))&&(hc||((ctx.length:Int)==0))):=by
  refine g0a ?_
  simp only[i0Y,cQ,Bool.and_eq_true,Bool.or_eq_true,beq_iff_eq]
  constructor
  ·exact fun h=>h.2
  exact fun h2=>⟨by omega,h2⟩
 refine vu rfl rfl nS (⟨congrArg (fun z=>AV.val (.bool z)) e.symm,rfl⟩)
theorem l0p (c:Cmp):Sp Tryz.prog 73 [o0l c] [] (Is (.val (.bool (decide (i0Y c))))):=by
 obtain⟨piv,hk,kid,hc,ctx,g⟩:=c
 refine yN Tryz.func73 _ Tryz.ntmps73 (fun w0 R0=> ?_)
 refine zD (zr ?_)
 refine ye ?_
 intro B
 refine zc (zI (zo (zD (zr ?_))))
 refine zt ?_
 refine zy ?_
 refine ww ?_
 refine zb ?_
 refine zM ?_
 refine zv 7 ?_
 refine xF 8 ?_
 refine zV ?_
 refine zb ?_
 refine zM ?_
 refine zv 12 ?_
 refine yb 13 ?_
 refine xF 14 ?_
 refine zV ?_
 refine zb ?_
 refine zM ?_
 refine zv 18 ?_
 refine wP 19 ?_
 refine zM ?_
 refine zv 21 ?_
 refine yb 22 ?_
 refine y8 23 ?_
 refine AO.opG rfl rfl rfl (fun hp=>wW 20 rfl (by exact hp) (O.pickOr rfl rfl rfl rfl (fun h=>by simp_all))) ?_
 refine zV ?_
 refine zb ?_
 refine zM ?_
 refine zv 28 ?_
 refine yb 29 ?_
 refine xF 30 ?_
 refine zV ?_
 refine zb ?_
 refine zM ?_
 refine zv 34 ?_
 refine wP 35 ?_
 refine zM ?_
 refine zv 37 ?_
 refine yb 38 ?_
 refine y8 39 ?_
 refine AO.opG rfl rfl rfl (fun hp=>wW 36 rfl (by exact hp) (O.pickOr rfl rfl rfl rfl (fun h=>by simp_all))) ?_
 refine zV ?_
 refine zc (zI (zo (xc ?_)))
 have e:decide (i0Y ⟨piv,hk,kid,hc,ctx,g⟩)=(decide (-1≤piv)&&decide (piv≤1099511627775)&&decide ((kid.length:Int)≤7)&&(hk||((kid.length:Int)==0))&&decide ((ctx.length:Int)≤16)&&(hc||((ctx.length:Int)==0))):=by
  refine g0a ?_
  simp only[i0Y,cQ,Bool.and_eq_true,Bool.or_eq_true,beq_iff_eq]
  constructor
  ·exact fun h=>⟨⟨⟨⟨⟨h.1.1,h.1.2.1⟩,h.1.2.2.1⟩,h.2.1⟩,h.1.2.2.2⟩,h.2.2⟩
  exact fun h=>⟨⟨h.1.1.1.1.1,h.1.1.1.1.2,h.1.1.1.2,h.1.2⟩,h.1.1.2,h.2⟩
 refine vu rfl rfl nS (⟨congrArg (fun z=>AV.val (.bool z)) e.symm,rfl⟩)
def flg (c:Cmp):Int:=(b0K c.piv).length+(if c.hasKid then 8 else 0)+(if c.hasCtx then 16 else 0)+(if c.group then 32 else 0)
def q0u (c:Cmp):List UInt8:=u8 (flg c)::b0K c.piv++(if c.hasCtx then u8 c.ctx.length::c.ctx else [])++c.kid
def c0O (c:Cmp):List UInt8×Int:=if ¬i0Y c then([],1)else if flg c=0 then([],0)else(q0u c,0)
theorem q0s {c:Cmp}(h:i0Y c):0≤flg c∧flg c≤61:=by
 have:=c0B c.piv
 unfold flg
 (repeat' split)<;>omega
theorem l0R (c:Cmp):Sp Tryz.prog 117 [o0l c] [] (Is (.tup [roB (c0O c).1,.val (.int .i64 (c0O c).2)])):=by
 have hfl:=q0s (c:=c)
 have hpl:=c0B c.piv
 obtain⟨piv,hk,kid,hc,ctx,g⟩:=c
 refine yN Tryz.func117 _ Tryz.ntmps117 (fun w0 R0=> ?_)
 refine zD (zr ?_)
 refine ye ?_
 intro B
 refine zc ?_
 refine zc (zI (zo (zD (zD (zr ?_)))))
 refine zB ?_
 refine vT (xH rfl Tryz.func160 rfl rfl rfl (n0T ⟨_,_,_,_,_,_⟩)) ?_
 refine xq (zI (zo ?_))
 refine yk (fun h=> ?_) (fun h=> ?_)<;>(try simp only[vX]at h)
 ·have e:c0O ⟨piv,hk,kid,hc,ctx,g⟩=([],1):=by unfold c0O;rw[if_pos h]
  rw[e]
  refine zD (zr ?_)
  refine zc ?_
  refine zc (zI (zo (xc (xr ?_))))
  refine AQ.g ?_
  refine G.nilRo 2 rfl ?_
  refine AQ.u ?_
  try dsimp only[List.map,List.eraseIdx,cA,cN]
  refine xJ
 have hfl:=hfl h
 have e:c0O ⟨piv,hk,kid,hc,ctx,g⟩=if flg ⟨piv,hk,kid,hc,ctx,g⟩=0 then([],0)else(q0u ⟨piv,hk,kid,hc,ctx,g⟩,0):=by unfold c0O;rw[if_neg (by simpa using h)]
 rw[e]
 obtain⟨⟨a1,a2,a3,a4⟩, -⟩:=h
 simp only at*
 obtain⟨n,hn⟩: ∃n:Int,n=(b0K piv).length:=⟨_,rfl⟩
 have hu:=a0F (x:=((b0K piv).length:Int)) (by omega)
 rw[←hn]at hu
 refine yX (zo (zD (zr ?_)))
 refine zt ?_
 refine zy ?_
 refine vT (xH rfl Tryz.func112 rfl rfl rfl (k0W _)) ?_
 refine zc (zI (zo (zD (zr ?_))))
 refine zb ?_
 refine zW ?_
 refine xa ?_
 refine zc (zI (zo (zD (zD (zr ?_)))))
 refine zt ?_
 refine zy (zI (zo ?_))
 simp only[hu,←hn]
 refine xL True [(1,_),(4,_)] [(5,.val (.int .u8 (bif hk then n+8 else n)))] [.blk B 52 6 [.val (.int .i64 piv),.val (.bool hk),roB kid,.val (.bool hc),roB ctx,.val (.bool g)]] (fun hb=> ?_) (fun hb=> ?_) (fun hj=> ?_)<;>try(try simp only[vX]at hb)
 ·subst hb
  refine zr ?_
  refine zb ?_
  refine vT (O.or_ rfl rfl rfl (r0I 3 (m:=8) (by decide) (by omega) (by omega))) ?_
  refine zc (zI ?_)
  refine yj
 ·subst hb
  refine yX ?_
  refine yj
 dsimp only[cA,cN]
 refine zo ?_
 obtain⟨n1,hn1⟩: ∃n1:Int,n1=bif hk then n+8 else n:=⟨_,rfl⟩
 have b1:0≤n1∧n1≤13:=by rw[hn1];cases hk<;>simp<;>omega
 rw[←hn1]
 refine zD (zD (zr ?_))
 refine zt ?_
 refine zy (zI (zo ?_))
 refine xL True [(1,_),(4,_)] [(5,.val (.int .u8 (bif hc then n1+16 else n1)))] [.blk B 52 6 [.val (.int .i64 piv),.val (.bool hk),roB kid,.val (.bool hc),roB ctx,.val (.bool g)]] (fun hb=> ?_) (fun hb=> ?_) (fun hj=> ?_)<;>try(try simp only[vX]at hb)
 ·subst hb
  refine zr ?_
  refine zb ?_
  refine vT (O.or_ rfl rfl rfl (r0I 4 (m:=16) (by decide) (by omega) (by omega))) ?_
  refine zc (zI ?_)
  refine yj
 ·subst hb
  refine yX ?_
  refine yj
 dsimp only[cA,cN]
 refine zo ?_
 obtain⟨n2,hn2⟩: ∃n2:Int,n2=bif hc then n1+16 else n1:=⟨_,rfl⟩
 have b2:0≤n2∧n2≤29:=by rw[hn2];cases hc<;>simp<;>omega
 rw[←hn2]
 refine zD (zD (zr ?_))
 refine zt ?_
 refine zy (zI (zo ?_))
 refine xL True [(1,_),(4,_)] [(5,.val (.int .u8 (bif g then n2+32 else n2)))] [.blk B 52 6 [.val (.int .i64 piv),.val (.bool hk),roB kid,.val (.bool hc),roB ctx,.val (.bool g)]] (fun hb=> ?_) (fun hb=> ?_) (fun hj=> ?_)<;>try(try simp only[vX]at hb)
 ·subst hb
  refine zr ?_
  refine zb ?_
  refine vT (O.or_ rfl rfl rfl (r0I 5 (m:=32) (by decide) (by omega) (by omega))) ?_
  refine zc (zI ?_)
  refine yj
 ·subst hb
  refine yX ?_
  refine yj
 dsimp only[cA,cN]
 refine zo ?_
 have hf:(bif g then n2+32 else n2)=flg ⟨piv,hk,kid,hc,ctx,g⟩:=by
  rw[hn2,hn1,hn];unfold flg;cases hk<;>cases hc<;>cases g<;>simp
 rw[hf]
 obtain⟨f,hfd⟩: ∃f,f=flg ⟨piv,hk,kid,hc,ctx,g⟩:=⟨_,rfl⟩
 rw[←hfd]at hfl⊢
 refine zD (zD (zr ?_))
 refine zb ?_
 refine z9 (zI (zo ?_))
 refine yk (fun hz=> ?_) (fun hz=> ?_)<;>(try simp only[vX]at hz)
 ·rw[if_pos hz]
  refine zD (zr ?_)
  refine zc ?_
  refine zc (zI (zo (xc (xr ?_))))
  refine AQ.g ?_
  refine G.nilRo 2 rfl ?_
  refine AQ.u ?_
  try dsimp only[List.map,List.eraseIdx,cA,cN]
  refine xJ
 have hfu:=a0F (x:=f) (by omega)
 rw[if_neg hz]
 refine yX (zo (zD (zr ?_)))
 refine zb ?_
 refine zQ ?_
 intro B
 refine AO.g ?_
 refine xN B 1 1 0 rfl rfl rfl (Nat.le_refl _) ?_
 refine AO.u ?_
 dsimp only[List.set]
 refine zb ?_
 refine zH 0 ?_
 intro V hV
 refine zc (zI (zo (zD (zD (zr ?_)))))
 refine zt ?_
 refine zn (zI (zo ?_))
 have hfu2:(f:Int)=((u8 f).toNat:Int):=hfu.symm
 have e2:q0u ⟨piv,hk,kid,hc,ctx,g⟩=u8 f::b0K piv++(if hc then u8 ctx.length::ctx else [])++kid:=by unfold q0u;rw[←hfd]
 rw[e2]
 refine yk (fun hb=> ?_) (fun hb=> ?_)
 ·subst hb
  have hu2:=a0F (x:=(ctx.length:Int)) (by omega)
  refine AW.regionM [(0,false),(1,false),(2,false),(3,false),(4,false),(5,false),(7,false),(8,false),(6,true),(9,true),(10,true)] (by kernel_rfl) (by kernel_rfl) (by exact(by exact c0x 6 0 rfl rfl a0h)) ?_
  dsimp only[List.eraseIdx]
  refine yR ?_
  refine xd ?_
  refine we ?_
  refine vU rfl (xW rfl rfl) ?_
  refine vU rfl (O.conv rfl rfl c0Q) ?_
  refine xh ?_
  refine xd ?_
  refine we ?_
  refine xX _ (fun w0 R0=> ?_)
  refine zx 0 ?_
  intro V hV
  refine AM.ok ?_
  dsimp only[a0z]
  refine xX _ (fun w0 R0=> ?_)
  refine zH 0 ?_
  intro V hV
  refine AM.ok ?_
  dsimp only[a0z]
  refine xX _ (fun w0 R0=> ?_)
  refine zc ?_
  refine AM.ok ?_
  dsimp only[a0z]
  refine vg ?_
  dsimp only[cA,cN]
  refine zo (zD (zr ?_))
  refine zb ?_
  refine zt ?_
  refine zn ?_
  refine yG 0 ?_
  intro V hV
  refine zc ?_
  refine zc (zI (zo (xc ?_)))
  refine AQ.g ?_
  refine yf 0 [2] ?_
  refine AQ.u ?_
  try dsimp only[List.map,List.eraseIdx,cA,cN]
  refine AQ.ret2 rfl rfl rfl nS (⟨congrArg (fun z=>AV.tup [z,.val (.int .i64 0)]) (b0l (by simp;omega) (by simp[a0a,hfu,hu2])),rfl⟩)
 subst hb
 refine yX (zo (zD (zr ?_)))
 refine zb ?_
 refine zt ?_
 refine zn ?_
 refine yG 0 ?_
 intro V hV
 refine zc ?_
 refine zc (zI (zo (xc ?_)))
 refine AQ.g ?_
 refine yf 0 [2] ?_
 refine AQ.u ?_
 try dsimp only[List.map,List.eraseIdx,cA,cN]
 refine AQ.ret2 rfl rfl rfl nS (⟨congrArg (fun z=>AV.tup [z,.val (.int .i64 0)]) (b0l (by simp;omega) (by simp[a0a,hfu])),rfl⟩)
theorem i0T: ∀(n:Nat) (out:List UInt8),out≠ []→l0W n out≠ []:=by
 intro n
 induction n using Nat.strongRecOn with
 |_ n ih=>
  intro out h
  by_cases h0:n=0
  ·subst h0;rw[a0V];exact h
  rw[a0T h0];exact ih _ (Nat.div_lt_self (by omega) (by omega)) _ (by simp)
theorem p0b {n:Int}(h:n≤1099511627775):(b0K n).length=0↔n<0:=by
 unfold b0K
 split
 ·simp;omega
 have:=i0T (n.toNat/256) [u8 n] (by simp)
 constructor
 ·intro h;exact absurd (List.eq_nil_of_length_eq_zero h) this
 intro h;omega
theorem j0p (c:Cmp):Sp Tryz.prog 23 [o0l c] [] (Is (.tup [roB (c0O c).1,.val (.int .i64 (c0O c).2)])):=by
 have hfl:=q0s (c:=c)
 have hpl:=c0B c.piv
 obtain⟨piv,hk,kid,hc,ctx,g⟩:=c
 refine yN Tryz.func23 _ Tryz.ntmps23 (fun w0 R0=> ?_)
 refine zD (zr ?_)
 refine ye ?_
 intro B
 refine zc ?_
 refine zc (zI (zo (zD (zD (zr ?_)))))
 refine zB ?_
 refine vT (xH rfl Tryz.func73 rfl rfl rfl (l0p ⟨_,_,_,_,_,_⟩)) ?_
 refine xq (zI (zo ?_))
 refine yk (fun h=> ?_) (fun h=> ?_)<;>(try simp only[vX]at h)
 ·have e:c0O ⟨piv,hk,kid,hc,ctx,g⟩=([],1):=by unfold c0O;rw[if_pos h]
  rw[e]
  refine zD (zr ?_)
  refine zc ?_
  refine zc (zI (zo (xc (xr ?_))))
  refine AQ.g ?_
  refine G.nilRo 2 rfl ?_
  refine AQ.u ?_
  try dsimp only[List.map,List.eraseIdx,cA,cN]
  refine xJ
 have hfl:=hfl h
 have e:c0O ⟨piv,hk,kid,hc,ctx,g⟩=if flg ⟨piv,hk,kid,hc,ctx,g⟩=0 then([],0)else(q0u ⟨piv,hk,kid,hc,ctx,g⟩,0):=by unfold c0O;rw[if_neg (by simpa using h)]
 rw[e]
 obtain⟨⟨a1,a2,a3,a4⟩, -⟩:=h
 simp only at*
 have hnil:=p0b a2
 have hnil':b0K piv= []↔piv<0:=by rw[←List.length_eq_zero_iff];exact hnil
 have hz0:flg ⟨piv,hk,kid,hc,ctx,g⟩=0↔(piv= -1∧hk=false∧hc=false∧g=false):=by
  unfold flg
  cases hk<;>cases hc<;>cases g<;>simp[hnil']<;>omega
 refine yX (zo (zD (zD (zr ?_))))
 refine zt ?_
 refine zy ?_
 refine z9 ?_
 refine zb ?_
 refine zM ?_
 refine zv 14 ?_
 refine yZ 15 ?_
 refine zV ?_
 refine zb ?_
 refine zM ?_
 refine zv 19 ?_
 refine yZ 20 ?_
 refine zV ?_
 refine zb ?_
 refine zM ?_
 refine zv 24 ?_
 refine yZ 25 ?_
 refine zV (zI (zo ?_))
 refine yk (fun hz=> ?_) (fun hz=> ?_)
 ·have hz:flg ⟨piv,hk,kid,hc,ctx,g⟩=0:=hz0.2 (by simpa[and_assoc]using hz)
  rw[if_pos hz]
  refine zD (zr ?_)
  refine zc ?_
  refine zc (zI (zo (xc (xr ?_))))
  refine AQ.g ?_
  refine G.nilRo 2 rfl ?_
  refine AQ.u ?_
  try dsimp only[List.map,List.eraseIdx,cA,cN]
  refine xJ
 have hz: ¬flg ⟨piv,hk,kid,hc,ctx,g⟩=0:=fun e=>by
  obtain⟨rfl,rfl,rfl,rfl⟩:=hz0.1 e
  simp at hz
 rw[if_neg hz]
 obtain⟨n,hn⟩: ∃n:Int,n=(b0K piv).length:=⟨_,rfl⟩
 refine yX (zo (zD (zr ?_)))
 refine zt ?_
 refine zy ?_
 refine vT (xH rfl Tryz.func74 rfl rfl rfl (i0g _)) ?_
 refine zc (zI (zo (zD (zr ?_))))
 refine zb ?_
 refine zW ?_
 refine zc (zI (zo (zD (zD (zr ?_)))))
 refine zt ?_
 refine zy (zI (zo ?_))
 simp only[←hn]
 refine xL True [(1,_),(4,_)] [(5,.val (.int .i64 (bif hk then n+8 else n)))] [.blk B 52 6 [.val (.int .i64 piv),.val (.bool hk),roB kid,.val (.bool hc),roB ctx,.val (.bool g)]] (fun hb=> ?_) (fun hb=> ?_) (fun hj=> ?_)<;>try(try simp only[vX]at hb)
 ·subst hb
  refine zr ?_
  refine zb ?_
  refine zA ?_
  refine zc (zI ?_)
  refine yj
 ·subst hb
  refine yX ?_
  refine yj
 dsimp only[cA,cN]
 refine zo ?_
 obtain⟨n1,hn1⟩: ∃n1:Int,n1=bif hk then n+8 else n:=⟨_,rfl⟩
 have b1:0≤n1∧n1≤13:=by rw[hn1];cases hk<;>simp<;>omega
 rw[←hn1]
 refine zD (zD (zr ?_))
 refine zt ?_
 refine zy (zI (zo ?_))
 refine xL True [(1,_),(4,_)] [(5,.val (.int .i64 (bif hc then n1+16 else n1)))] [.blk B 52 6 [.val (.int .i64 piv),.val (.bool hk),roB kid,.val (.bool hc),roB ctx,.val (.bool g)]] (fun hb=> ?_) (fun hb=> ?_) (fun hj=> ?_)<;>try(try simp only[vX]at hb)
 ·subst hb
  refine zr ?_
  refine zb ?_
  refine zA ?_
  refine zc (zI ?_)
  refine yj
 ·subst hb
  refine yX ?_
  refine yj
 dsimp only[cA,cN]
 refine zo ?_
 obtain⟨n2,hn2⟩: ∃n2:Int,n2=bif hc then n1+16 else n1:=⟨_,rfl⟩
 have b2:0≤n2∧n2≤29:=by rw[hn2];cases hc<;>simp<;>omega
 rw[←hn2]
 refine zD (zD (zr ?_))
 refine zt ?_
 refine zy (zI (zo ?_))
 refine xL True [(1,_),(4,_)] [(5,.val (.int .i64 (bif g then n2+32 else n2)))] [.blk B 52 6 [.val (.int .i64 piv),.val (.bool hk),roB kid,.val (.bool hc),roB ctx,.val (.bool g)]] (fun hb=> ?_) (fun hb=> ?_) (fun hj=> ?_)<;>try(try simp only[vX]at hb)
 ·subst hb
  refine zr ?_
  refine zb ?_
  refine zA ?_
  refine zc (zI ?_)
  refine yj
 ·subst hb
  refine yX ?_
  refine yj
 dsimp only[cA,cN]
 refine zo ?_
 have hf:(bif g then n2+32 else n2)=flg ⟨piv,hk,kid,hc,ctx,g⟩:=by
  rw[hn2,hn1,hn];unfold flg;cases hk<;>cases hc<;>cases g<;>simp
 rw[hf]
 have e2:q0u ⟨piv,hk,kid,hc,ctx,g⟩=u8 (flg ⟨piv,hk,kid,hc,ctx,g⟩)::b0K piv++(if hc then u8 ctx.length::ctx else [])++kid:=rfl
 rw[e2]
 obtain⟨f,hfd⟩: ∃f,f=flg ⟨piv,hk,kid,hc,ctx,g⟩:=⟨_,rfl⟩
 rw[←hfd]at hfl⊢
 refine zD (zr ?_)
 refine zb ?_
 refine xa ?_
 refine zQ ?_
 intro B
 refine AO.g ?_
 refine xN B 1 1 0 rfl rfl rfl (Nat.le_refl _) ?_
 refine AO.u ?_
 dsimp only[List.set]
 refine zb ?_
 refine zH 0 ?_
 intro V hV
 refine zc (zI (zo (zD (zD (zr ?_)))))
 refine zt ?_
 refine zn (zI (zo ?_))
 refine yk (fun hb=> ?_) (fun hb=> ?_)
 ·subst hb
  refine zD (zr ?_)
  refine zb ?_
  refine zt ?_
  refine zn ?_
  refine zW ?_
  refine xa ?_
  refine zQ ?_
  intro B
  refine AO.g ?_
  refine yc 0 57 ?_
  refine wd 57 ?_
  refine AO.u ?_
  dsimp only[List.eraseIdx]
  refine zx 0 ?_
  intro V hV
  refine zc (zI (zo (zr ?_)))
  refine zb ?_
  refine zt ?_
  refine zn ?_
  refine zH 0 ?_
  intro V hV
  refine zc (zI (zo (zD (zr ?_))))
  refine zb ?_
  refine zt ?_
  refine zn ?_
  refine yG 0 ?_
  intro V hV
  refine zc ?_
  refine zc (zI (zo (xc ?_)))
  refine AQ.g ?_
  refine yf 0 [2] ?_
  refine AQ.u ?_
  try dsimp only[List.map,List.eraseIdx,cA,cN]
  refine AQ.ret2 rfl rfl rfl nS (⟨congrArg (fun z=>AV.tup [z,.val (.int .i64 0)]) (b0l (by simp;omega) (by simp[a0a])),rfl⟩)
 subst hb
 refine yX (zo (zD (zr ?_)))
 refine zb ?_
 refine zt ?_
 refine zn ?_
 refine yG 0 ?_
 intro V hV
 refine zc ?_
 refine zc (zI (zo (xc ?_)))
 refine AQ.g ?_
 refine yf 0 [2] ?_
 refine AQ.u ?_
 try dsimp only[List.map,List.eraseIdx,cA,cN]
 refine AQ.ret2 rfl rfl rfl nS (⟨congrArg (fun z=>AV.tup [z,.val (.int .i64 0)]) (b0l (by simp;omega) (by simp[a0a])),rfl⟩)
def Cmp.zero:Cmp:=⟨0,false,[],false,[],false⟩
def q0v (f:Nat)(piv:Int)(hc:Bool)(ctx t:List UInt8):Cmp×Int:=
 if f&&&8=0 then(if 0<t.length then(.zero,9)else(⟨piv,false,[],hc,ctx,(((f&&&32:Nat):Int) !=0)⟩,0))
 else if 7<t.length then(.zero,8)else(⟨piv,true,t,hc,ctx,(((f&&&32:Nat):Int) !=0)⟩,0)
def i0S (f:Nat)(piv:Int)(s:List UInt8):Cmp×Int:=
 if f&&&16=0 then q0v f piv false [] s
 else if s.length=0 then(.zero,2)else if 16<(bt s 0).toNat then(.zero,8)else if s.length<1+(bt s 0).toNat then(.zero,2)else q0v f piv true ((s.drop 1).take (bt s 0).toNat) (s.drop (1+(bt s 0).toNat))
def u0w (f:Nat)(r:List UInt8):Cmp×Int:=
 if r.length<f%8 then(.zero,2)else if 0<f%8 then(if(d0j (r.take (f%8))).2≠0 then(.zero,(d0j (r.take (f%8))).2)else i0S f (d0j (r.take (f%8))).1 (r.drop (f%8)))else i0S f (-1) (r.drop (f%8))
def n0S (b:List UInt8):Cmp×Int:=
 if b.length=0 then(⟨-1,false,[],false,[],false⟩,0)else if 30<b.length then(.zero,8)
 else if(bt b 0).toNat=0∨64≤(bt b 0).toNat∨5<(bt b 0).toNat%8 then(.zero,4)else u0w (bt b 0).toNat (b.drop 1)
abbrev t0f (r:Cmp×Int):AV:= .tup [o0l r.1,.val (.int .i64 r.2)]
theorem d0z {q:AV}{r:Cmp×Int}{c:Cmp}{e:Int}(h:r=(c,e))(hq:q= .tup [o0l c,.val (.int .i64 e)]):Is (t0f r) q []:=by subst h;exact⟨hq,rfl⟩
theorem l0U (b:List UInt8):Sp Tryz.prog 70 [roB b] [] (Is (t0f (n0S b))):=by
 obtain⟨res,hres⟩: ∃res,n0S b=res:=⟨_,rfl⟩
 rw[hres]
 unfold n0S at hres
 refine yN Tryz.func70 _ Tryz.ntmps70 (fun w0 R0=> ?_)
 refine zD (zr ?_)
 refine zd ?_
 intro B
 refine zc (zI (zo (zD (zr ?_))))
 refine zN ?_
 refine zd ?_
 intro B
 refine za 0 (zI (zo (zD (zD (zr ?_)))))
 refine zb ?_
 refine zW ?_
 refine z9 (zI (zo ?_))
 rename_i B1
 refine yk (fun h0=> ?_) (fun h0=> ?_)<;>(try simp only[vX]at h0)
 ·rw[if_pos (by omega)]at hres
  refine zD (zr ?_)
  refine zB ?_
  refine za 1 ?_
  refine zc (zI (zo (xc (xr ?_))))
  refine x8 zm zj (d0z hres.symm rfl)
 rw[if_neg (by omega)]at hres
 refine yX (zo (zD (zD (zr ?_))))
 refine zb ?_
 refine zW ?_
 refine yS (zI (zo ?_))
 refine yk (fun h1=> ?_) (fun h1=> ?_)<;>(try simp only[vX]at h1)
 ·rw[if_pos (by omega)]at hres
  refine zD (zr ?_)
  refine zN ?_
  refine za 1 ?_
  refine zc (zI (zo (xc (xr ?_))))
  refine x8 zm zj (d0z hres.symm rfl)
 rw[if_neg (by omega)]at hres
 have hx:=b0u (bt b 0)
 obtain⟨f,hf⟩: ∃f,f=(bt b 0).toNat:=⟨_,rfl⟩
 rw[←hf]at hres hx
 refine yX (zo (zD (zr ?_)))
 refine zb ?_
 refine z8 ?_
 refine vT (O.loadR rfl rfl (by exact b0d (k:=0) (by omega) rfl)) ?_
 refine zc (zI (zo (zD (zr ?_))))
 refine zb ?_
 refine vT (O.and_ rfl rfl rfl (j0W 3 (by decide) (by decide) (m:=8) (by decide) (by omega))) ?_
 refine xO ?_
 refine zc (zI (zo (zD (zD (zr ?_)))))
 refine zb ?_
 refine z9 ?_
 refine zb ?_
 refine yt ?_
 refine AO.opG rfl rfl rfl (fun hp=>wW 28 rfl (by exact hp) vh) ?_
 refine zE ?_
 refine zb ?_
 refine yt ?_
 refine yp 32 ?_
 refine zE (zI (zo ?_))
 rw[←hf]
 refine yk (fun h2=> ?_) (fun h2=> ?_)<;>(try simp only[vX]at h2)
 ·rw[if_pos (by omega)]at hres
  refine zD (zr ?_)
  refine zN ?_
  refine za 1 ?_
  refine zc (zI (zo (xc (xr ?_))))
  refine x8 zm zj (d0z hres.symm rfl)
 rw[if_neg (by omega)]at hres
 unfold u0w at hres
 have hn8:(f:Int)%8=((f%8:Nat):Int):=by omega
 rw[hn8]
 obtain⟨n,hn⟩: ∃n,n=f%8:=⟨_,rfl⟩
 rw[←hn]at hres⊢
 have hn5:n≤5:=by omega
 refine yX (zo (zD (zr ?_)))
 refine zb ?_
 refine vT (O.and_ rfl rfl rfl (l0a (c:=32) (by omega) (by decide))) ?_
 refine y1 ?_
 refine zt ?_
 refine za 0 (zI (zo (zD (zr ?_))))
 refine zb ?_
 refine vT (O.sliceFromB (k:=1) rfl rfl rfl (by rfl) (by omega)) ?_
 refine zc (zI (zo (zD (zD (zr ?_)))))
 refine zb ?_
 refine zW ?_
 refine zb ?_
 refine zP (zI (zo ?_))
 have hl1:(b.drop 1).length=b.length-1:=by simp
 obtain⟨r,hr⟩: ∃r,r=b.drop 1:=⟨_,rfl⟩
 rw[←hr]at hres hl1⊢
 refine yk (fun h3=> ?_) (fun h3=> ?_)<;>(try simp only[vX]at h3)
 ·rw[if_pos (by omega)]at hres
  refine zD (zr ?_)
  refine zN ?_
  refine za 1 ?_
  refine zc (zI (zo (xc (xr ?_))))
  refine x8 zm zj (d0z hres.symm rfl)
 rw[if_neg (by omega)]at hres
 refine yX (zo (zD (zD (zr ?_))))
 refine zb ?_
 refine yS (zI (zo ?_))
 refine xL (i0S f (if 0<n then(d0j (r.take n)).1 else -1) (r.drop n)=res) [(2,_),(4,_),(5,_),(6,_)] [(0,roB r)] [.blk B 52 6 [.val (.int .i64 (if 0<n then(d0j (r.take n)).1 else -1)),.val (.bool false),.val (.slice none 0 0),.val (.bool false),.val (.slice none 0 0),.val (.bool ((((f&&&32:Nat):Int) !=0)))],.blk B1 52 6 [.val (.int .i64 0),.val (.bool false),.val (.slice none 0 0),.val (.bool false),.val (.slice none 0 0),.val (.bool false)]] (fun h4=> ?_) (fun h4=> ?_) (fun hj=> ?_)<;>try(try simp only[vX]at h4)
 ·have h4:0<n:=by omega
  rw[if_pos h4]at hres
  refine zD (zr ?_)
  refine zb ?_
  refine zb ?_
  refine vT (O.sliceToB rfl rfl rfl (by rfl) (by omega)) ?_
  refine vT (xH rfl Tryz.func129 rfl rfl rfl (n0p _)) ?_
  refine zb ?_
  refine zO ?_
  refine zO ?_
  refine zc ?_
  refine zc (zI (zo (zD (zD (zr ?_)))))
  refine zb ?_
  refine y1 (zI (zo ?_))
  refine yk (fun h5=> ?_) (fun h5=> ?_)<;>(try simp only[vX]at h5)
  ·rw[if_pos h5]at hres
   refine zD (zr ?_)
   refine zN ?_
   refine zb ?_
   refine za 1 ?_
   refine zc (zI (zo (xc (xr ?_))))
   refine AQ.midR (xr ?_)
   refine x8 zm zj (d0z hres.symm rfl)
  rw[if_neg (by omega)]at hres
  rw[if_pos h4]
  refine yX (zo (zr ?_))
  refine zb ?_
  refine zt ?_
  refine za 0 (zI ?_)
  refine wD hres
 ·have h4: ¬0<n:=by omega
  rw[if_neg h4]at hres
  rw[if_neg h4]
  refine yX ?_
  refine wD hres
 dsimp only[cA,cN]
 refine zo ?_
 obtain⟨piv,hp⟩: ∃piv,piv=(if 0<n then(d0j (r.take n)).1 else -1):=⟨_,rfl⟩
 rw[←hp]at hj⊢
 clear hres
 refine zD (zr ?_)
 refine zb ?_
 refine zb ?_
 refine vT (O.sliceFromB rfl rfl rfl (by rfl) (by omega)) ?_
 refine zc (zI (zo (zD (zD (zr ?_)))))
 refine zb ?_
 refine vT (O.and_ rfl rfl rfl (l0a (c:=16) (by omega) (by decide))) ?_
 refine y1 (zI (zo ?_))
 have hl2:(r.drop n).length=r.length-n:=by simp
 obtain⟨s,hs⟩: ∃s,s=r.drop n:=⟨_,rfl⟩
 rw[←hs]at hj hl2⊢
 unfold i0S at hj
 have hfl: ∀c:Nat,((f&&&c:Nat):Int)=0↔f&&&c=0:=fun c=>by omega
 refine yk (fun h6=> ?_) (fun h6=> ?_)<;>(try simp only[vX]at h6)
 ·rw[if_neg (by omega)]at hj
  refine zD (zD (zr ?_))
  refine zb ?_
  refine zW ?_
  refine z9 (zI (zo ?_))
  refine yk (fun h7=> ?_) (fun h7=> ?_)<;>(try simp only[vX]at h7)
  ·rw[if_pos (by omega)]at hj
   refine zD (zr ?_)
   refine zN ?_
   refine za 1 ?_
   refine zc (zI (zo (xc (xr (xr ?_)))))
   refine x8 zm zj (d0z hj.symm rfl)
  rw[if_neg (by omega)]at hj
  have hxs:=b0u (bt s 0)
  obtain⟨m,hm⟩: ∃m,m=(bt s 0).toNat:=⟨_,rfl⟩
  rw[←hm]at hj hxs
  refine yX (zo (zD (zr ?_)))
  refine zb ?_
  refine z8 ?_
  refine vT (O.loadR rfl rfl (by exact b0d (k:=0) (by omega) rfl)) ?_
  refine xO ?_
  refine zc (zI (zo (zD (zD (zr ?_)))))
  refine zb ?_
  refine yS (zI (zo ?_))
  rw[←hm]
  refine yk (fun h8=> ?_) (fun h8=> ?_)<;>(try simp only[vX]at h8)
  ·rw[if_pos (by omega)]at hj
   refine zD (zr ?_)
   refine zN ?_
   refine za 1 ?_
   refine zc (zI (zo (xc (xr (xr ?_)))))
   refine x8 zm zj (d0z hj.symm rfl)
  rw[if_neg (by omega)]at hj
  refine yX (zo (zD (zD (zr ?_))))
  refine zb ?_
  refine zW ?_
  refine zb ?_
  refine zA ?_
  refine zP (zI (zo ?_))
  refine yk (fun h9=> ?_) (fun h9=> ?_)<;>(try simp only[vX]at h9)
  ·rw[if_pos (by omega)]at hj
   refine zD (zr ?_)
   refine zN ?_
   refine za 1 ?_
   refine zc (zI (zo (xc (xr (xr ?_)))))
   refine x8 zm zj (d0z hj.symm rfl)
  rw[if_neg (by omega)]at hj
  have hl3:(s.drop (1+m)).length=s.length-(1+m):=by simp
  have e9:(s.drop 1).take (1+m-1)=(s.drop 1).take m:=by rw[show 1+m-1=m by omega]
  refine yX (zo (zD (zr ?_)))
  refine zb ?_
  refine zb ?_
  refine zA ?_
  refine vT (O.sliceLHB rfl rfl rfl rfl (lo:=1) (hi:=1+m) (by rfl) (by rfl) (by omega) (by omega)) ?_
  refine y0 ?_
  intro V hV
  refine AO.g ?_
  refine yH 0 [89] ?_
  refine AO.u ?_
  dsimp only[List.map,List.eraseIdx,cA,cN]
  refine zt ?_
  refine za 0 ?_
  refine zt ?_
  refine za 0 (zI (zo (zr ?_)))
  refine zb ?_
  refine zb ?_
  refine zA ?_
  refine vT (O.sliceFromB (k:=1+m) rfl rfl rfl (by rfl) (by omega)) ?_
  refine zc (zI (zo (zD (zD (zr ?_)))))
  refine zb ?_
  refine vT (O.and_ rfl rfl rfl (l0a (c:=8) (by omega) (by decide))) ?_
  refine z9 (zI (zo ?_))
  rw[e9]
  unfold q0v at hj
  refine yk (fun h7=> ?_) (fun h7=> ?_)<;>(try simp only[vX]at h7)
  ·rw[if_pos (by omega)]at hj
   refine zD (zD (zr ?_))
   refine zb ?_
   refine zW ?_
   refine yS (zI (zo ?_))
   refine yk (fun h8=> ?_) (fun h8=> ?_)<;>(try simp only[vX]at h8)
   ·rw[if_pos (by omega)]at hj
    refine zD (zr ?_)
    refine zN ?_
    refine za 1 ?_
    refine zc (zI (zo (xc (xr (xr ?_)))))
    refine x8 zm zj (d0z hj.symm rfl)
   rw[if_neg (by omega)]at hj
   refine yX (zo (zD (zr ?_)))
   refine zB ?_
   refine za 1 ?_
   refine zc (zI (zo (xc (xr ?_))))
   refine x8 zm zj (d0z hj.symm rfl)
  rw[if_neg (by omega)]at hj
  refine yX (zo (zD (zD (zr ?_))))
  refine zb ?_
  refine zW ?_
  refine yS (zI (zo ?_))
  refine yk (fun h8=> ?_) (fun h8=> ?_)<;>(try simp only[vX]at h8)
  ·rw[if_pos (by omega)]at hj
   refine zD (zr ?_)
   refine zN ?_
   refine za 1 ?_
   refine zc (zI (zo (xc (xr ?_))))
   refine x8 zm zj (d0z hj.symm rfl)
  rw[if_neg (by omega)]at hj
  refine yX (zo (zD (zr ?_)))
  refine zb ?_
  refine yD ?_
  intro V hV
  refine AO.g ?_
  refine yH 0 [109] ?_
  refine AO.u ?_
  dsimp only[List.map,List.eraseIdx,cA,cN]
  refine zt ?_
  refine za 0 ?_
  refine zt ?_
  refine za 0 (zI (zo (zD (zr ?_))))
  refine zB ?_
  refine za 1 ?_
  refine zc (zI (zo (xc ?_)))
  refine x8 zm xe (d0z hj.symm rfl)
 rw[if_pos (by omega)]at hj
 unfold q0v at hj
 refine yX (zo (zD (zD (zr ?_))))
 refine zb ?_
 refine vT (O.and_ rfl rfl rfl (l0a (c:=8) (by omega) (by decide))) ?_
 refine z9 (zI (zo ?_))
 refine yk (fun h7=> ?_) (fun h7=> ?_)<;>(try simp only[vX]at h7)
 ·rw[if_pos (by omega)]at hj
  refine zD (zD (zr ?_))
  refine zb ?_
  refine zW ?_
  refine yS (zI (zo ?_))
  refine yk (fun h8=> ?_) (fun h8=> ?_)<;>(try simp only[vX]at h8)
  ·rw[if_pos (by omega)]at hj
   refine zD (zr ?_)
   refine zN ?_
   refine za 1 ?_
   refine zc (zI (zo (xc (xr (xr ?_)))))
   refine x8 zm zj (d0z hj.symm rfl)
  rw[if_neg (by omega)]at hj
  refine yX (zo (zD (zr ?_)))
  refine zB ?_
  refine za 1 ?_
  refine zc (zI (zo (xc (xr ?_))))
  refine x8 zm zj (d0z hj.symm rfl)
 rw[if_neg (by omega)]at hj
 refine yX (zo (zD (zD (zr ?_))))
 refine zb ?_
 refine zW ?_
 refine yS (zI (zo ?_))
 refine yk (fun h8=> ?_) (fun h8=> ?_)<;>(try simp only[vX]at h8)
 ·rw[if_pos (by omega)]at hj
  refine zD (zr ?_)
  refine zN ?_
  refine za 1 ?_
  refine zc (zI (zo (xc (xr ?_))))
  refine x8 zm zj (d0z hj.symm rfl)
 rw[if_neg (by omega)]at hj
 refine yX (zo (zD (zr ?_)))
 refine zb ?_
 refine yD ?_
 intro V hV
 refine AO.g ?_
 refine yH 0 [109] ?_
 refine AO.u ?_
 dsimp only[List.map,List.eraseIdx,cA,cN]
 refine zt ?_
 refine za 0 ?_
 refine zt ?_
 refine za 0 (zI (zo (zD (zr ?_))))
 refine zB ?_
 refine za 1 ?_
 refine zc (zI (zo (xc ?_)))
 refine x8 zm zj (d0z hj.symm rfl)
theorem j0q (b:List UInt8):Sp Tryz.prog 72 [roB b] [] (Is (t0f (n0S b))):=by
 obtain⟨res,hres⟩: ∃res,n0S b=res:=⟨_,rfl⟩
 rw[hres]
 unfold n0S at hres
 refine yN Tryz.func72 _ Tryz.ntmps72 (fun w0 R0=> ?_)
 refine zD (zr ?_)
 refine zd ?_
 intro B
 refine zc (zI (zo (zD (zr ?_))))
 refine zN ?_
 refine zd ?_
 intro B
 refine za 0 (zI (zo (zD (zD (zr ?_)))))
 refine zb ?_
 refine zW ?_
 refine yS (zI (zo ?_))
 rename_i B1
 refine yk (fun h0=> ?_) (fun h0=> ?_)<;>(try simp only[vX]at h0)
 ·rw[if_neg (by omega),if_pos (by omega)]at hres
  refine zD (zr ?_)
  refine zN ?_
  refine za 1 ?_
  refine zc (zI (zo (xc (xr ?_))))
  refine x8 zm zj (d0z hres.symm rfl)
 refine yX (zo (zD (zD (zr ?_))))
 refine zb ?_
 refine zW ?_
 refine z9 (zI (zo ?_))
 refine yk (fun h1=> ?_) (fun h1=> ?_)<;>(try simp only[vX]at h1)
 ·rw[if_pos (by omega)]at hres
  refine zD (zr ?_)
  refine zB ?_
  refine za 1 ?_
  refine zc (zI (zo (xc (xr ?_))))
  refine x8 zm zj (d0z hres.symm rfl)
 rw[if_neg (by omega),if_neg (by omega)]at hres
 have hx:=b0u (bt b 0)
 obtain⟨f,hf⟩: ∃f,f=(bt b 0).toNat:=⟨_,rfl⟩
 rw[←hf]at hres hx
 refine yX (zo (zD (zr ?_)))
 refine zb ?_
 refine z8 ?_
 refine vT (O.loadR rfl rfl (by exact b0d (k:=0) (by omega) rfl)) ?_
 refine xO ?_
 refine zc (zI (zo (zD (zr ?_))))
 refine zb ?_
 refine vT (O.rem rfl rfl rfl (by omega) rfl) ?_
 refine zc (zI (zo (zD (zD (zr ?_)))))
 refine zb ?_
 refine z9 ?_
 refine zb ?_
 refine yt ?_
 refine yp 28 ?_
 refine zE ?_
 refine zb ?_
 refine yt ?_
 refine yp 32 ?_
 refine zE (zI (zo ?_))
 rw[←hf]
 have htm:(f:Int).tmod 8=(f:Int)%8:=Int.tmod_eq_emod_of_nonneg (by omega)
 simp only[htm]
 refine yk (fun h2=> ?_) (fun h2=> ?_)<;>(try simp only[vX]at h2)
 ·rw[if_pos (by omega)]at hres
  refine zD (zr ?_)
  refine zN ?_
  refine za 1 ?_
  refine zc (zI (zo (xc (xr ?_))))
  refine x8 zm zj (d0z hres.symm rfl)
 rw[if_neg (by omega)]at hres
 unfold u0w at hres
 have hn8:(f:Int)%8=((f%8:Nat):Int):=by omega
 rw[hn8]
 obtain⟨n,hn⟩: ∃n,n=f%8:=⟨_,rfl⟩
 rw[←hn]at hres⊢
 have hn5:n≤5:=by omega
 refine yX (zo (zD (zr ?_)))
 refine zb ?_
 refine vT (O.and_ rfl rfl rfl (j0X (c:=8) (by omega) (by decide))) ?_
 refine y1 ?_
 refine zb ?_
 refine vT (O.and_ rfl rfl rfl (j0X (c:=16) (by omega) (by decide))) ?_
 refine y1 ?_
 refine zb ?_
 refine vT (O.and_ rfl rfl rfl (j0X (c:=32) (by omega) (by decide))) ?_
 refine y1 ?_
 refine zt ?_
 refine za 0 ?_
 refine zt ?_
 refine za 0 ?_
 refine zt ?_
 refine za 0 (zI (zo (zD (zr ?_))))
 refine zb ?_
 refine vT (O.sliceFromB (k:=1) rfl rfl rfl (by rfl) (by omega)) ?_
 refine zc (zI (zo (zD (zD (zr ?_)))))
 refine zb ?_
 refine zW ?_
 refine zb ?_
 refine zP (zI (zo ?_))
 have hl1:(b.drop 1).length=b.length-1:=by simp
 obtain⟨r,hr⟩: ∃r,r=b.drop 1:=⟨_,rfl⟩
 rw[←hr]at hres hl1⊢
 refine yk (fun h3=> ?_) (fun h3=> ?_)<;>(try simp only[vX]at h3)
 ·rw[if_pos (by omega)]at hres
  refine zD (zr ?_)
  refine zN ?_
  refine za 1 ?_
  refine zc (zI (zo (xc (xr ?_))))
  refine x8 zm zj (d0z hres.symm rfl)
 rw[if_neg (by omega)]at hres
 refine yX (zo (zD (zD (zr ?_))))
 refine zb ?_
 refine yS (zI (zo ?_))
 refine xL (i0S f (if 0<n then(d0j (r.take n)).1 else -1) (r.drop n)=res) [(2,_),(4,_),(6,_)] [(0,roB r)] [.blk B 52 6 [.val (.int .i64 (if 0<n then(d0j (r.take n)).1 else -1)),.val (.bool (((f&&&8:Nat):Int) !=0)),.val (.slice none 0 0),.val (.bool (((f&&&16:Nat):Int) !=0)),.val (.slice none 0 0),.val (.bool (((f&&&32:Nat):Int) !=0))],.blk B1 52 6 [.val (.int .i64 0),.val (.bool false),.val (.slice none 0 0),.val (.bool false),.val (.slice none 0 0),.val (.bool false)]] (fun h4=> ?_) (fun h4=> ?_) (fun hj=> ?_)<;>try(try simp only[vX]at h4)
 ·have h4:0<n:=by omega
  rw[if_pos h4]at hres
  refine zD (zr ?_)
  refine zb ?_
  refine zb ?_
  refine vT (O.sliceToB rfl rfl rfl (by rfl) (by omega)) ?_
  refine vT (xH rfl Tryz.func130 rfl rfl rfl (l0l _)) ?_
  refine zb ?_
  refine zO ?_
  refine zO ?_
  refine zc ?_
  refine zc (zI (zo (zD (zD (zr ?_)))))
  refine zb ?_
  refine y1 (zI (zo ?_))
  refine yk (fun h5=> ?_) (fun h5=> ?_)<;>(try simp only[vX]at h5)
  ·rw[if_pos h5]at hres
   refine zD (zr ?_)
   refine zN ?_
   refine zb ?_
   refine za 1 ?_
   refine zc (zI (zo (xc (xr ?_))))
   refine AQ.midR (xr ?_)
   refine x8 zm zj (d0z hres.symm rfl)
  rw[if_neg (by omega)]at hres
  rw[if_pos h4]
  refine yX (zo (zr ?_))
  refine zb ?_
  refine zt ?_
  refine za 0 (zI ?_)
  refine wD hres
 ·have h4: ¬0<n:=by omega
  rw[if_neg h4]at hres
  rw[if_neg h4]
  refine yX ?_
  refine wD hres
 dsimp only[cA,cN]
 refine zo ?_
 obtain⟨piv,hp⟩: ∃piv,piv=(if 0<n then(d0j (r.take n)).1 else -1):=⟨_,rfl⟩
 rw[←hp]at hj⊢
 clear hres
 refine zD (zr ?_)
 refine zb ?_
 refine zb ?_
 refine vT (O.sliceFromB rfl rfl rfl (by rfl) (by omega)) ?_
 refine zc (zI (zo (zD (zD (zr ?_)))))
 refine zt ?_
 refine zy (zI (zo ?_))
 have hl2:(r.drop n).length=r.length-n:=by simp
 obtain⟨s,hs⟩: ∃s,s=r.drop n:=⟨_,rfl⟩
 rw[←hs]at hj hl2⊢
 unfold i0S at hj
 have hfl: ∀c:Nat,((f&&&c:Nat):Int)=0↔f&&&c=0:=fun c=>by omega
 refine yk (fun h6=> ?_) (fun h6=> ?_)<;>(try simp only[vX]at h6)
 ·have hb16:(((f&&&16:Nat):Int) !=0)=true:=bne_iff_ne.2 (by omega)
  rw[if_neg (by omega)]at hj
  refine zD (zD (zr ?_))
  refine zb ?_
  refine zW ?_
  refine z9 (zI (zo ?_))
  refine yk (fun h7=> ?_) (fun h7=> ?_)<;>(try simp only[vX]at h7)
  ·rw[if_pos (by omega)]at hj
   refine zD (zr ?_)
   refine zN ?_
   refine za 1 ?_
   refine zc (zI (zo (xc (xr (xr ?_)))))
   refine x8 zm zj (d0z hj.symm rfl)
  rw[if_neg (by omega)]at hj
  have hxs:=b0u (bt s 0)
  obtain⟨m,hm⟩: ∃m,m=(bt s 0).toNat:=⟨_,rfl⟩
  rw[←hm]at hj hxs
  refine yX (zo (zD (zr ?_)))
  refine zb ?_
  refine z8 ?_
  refine vT (O.loadR rfl rfl (by exact b0d (k:=0) (by omega) rfl)) ?_
  refine xO ?_
  refine zc (zI (zo (zD (zD (zr ?_)))))
  refine zb ?_
  refine yS (zI (zo ?_))
  rw[←hm]
  refine yk (fun h8=> ?_) (fun h8=> ?_)<;>(try simp only[vX]at h8)
  ·rw[if_pos (by omega)]at hj
   refine zD (zr ?_)
   refine zN ?_
   refine za 1 ?_
   refine zc (zI (zo (xc (xr (xr ?_)))))
   refine x8 zm zj (d0z hj.symm rfl)
  rw[if_neg (by omega)]at hj
  refine yX (zo (zD (zD (zr ?_))))
  refine zb ?_
  refine zW ?_
  refine zb ?_
  refine zA ?_
  refine zP (zI (zo ?_))
  refine yk (fun h9=> ?_) (fun h9=> ?_)<;>(try simp only[vX]at h9)
  ·rw[if_pos (by omega)]at hj
   refine zD (zr ?_)
   refine zN ?_
   refine za 1 ?_
   refine zc (zI (zo (xc (xr (xr ?_)))))
   refine x8 zm zj (d0z hj.symm rfl)
  rw[if_neg (by omega)]at hj
  have hl3:(s.drop (1+m)).length=s.length-(1+m):=by simp
  have e9:(s.drop 1).take (1+m-1)=(s.drop 1).take m:=by rw[show 1+m-1=m by omega]
  refine yX (zo ?_)
  refine AW.regionM [(0,false),(1,false),(2,false),(3,false),(4,false),(5,false),(6,false),(7,false),(8,false),(9,false),(10,true),(11,true)] (by kernel_rfl) (by kernel_rfl) (by exact(by exact a0C 4 0 rfl rfl a0h)) ?_
  dsimp only[List.eraseIdx]
  refine yR ?_
  refine yR ?_
  refine vU rfl zF ?_
  refine vU rfl (O.sliceLHB rfl rfl rfl rfl (lo:=1) (hi:=1+m) (by rfl) (by rfl) (by omega) (by omega)) ?_
  (refine AM.op rfl (O.call rfl Tryz.func69 rfl rfl rfl (a0s _ (by(simp<;>omega)))) rfl rfl rfl ?_)
  refine yR ?_
  refine yR ?_
  refine vU rfl zF ?_
  refine vU rfl (O.sliceFromB (k:=1+m) rfl rfl rfl (by rfl) (by omega)) ?_
  refine xd ?_
  refine xX _ (fun w0 R0=> ?_)
  refine za 0 (AM.okN ?_)
  dsimp only[a0z]
  refine xX _ (fun w0 R0=> ?_)
  refine zc ?_
  refine AM.ok ?_
  dsimp only[a0z]
  refine vg ?_
  dsimp only[cA,cN]
  refine zo (zD (zD (zr ?_)))
  refine zt ?_
  refine zy ?_
  refine xq ?_
  refine zb ?_
  refine yt ?_
  refine yb 106 ?_
  refine yp 107 ?_
  refine zV (zI (zo ?_))
  rw[e9]
  unfold q0v at hj
  refine yk (fun h7=> ?_) (fun h7=> ?_)<;>(try simp only[vX]at h7)
  ·rw[if_pos (by omega),if_pos (by omega)]at hj
   refine zD (zr ?_)
   refine zN ?_
   refine za 1 ?_
   refine zc (zI (zo (xc (xr ?_))))
   refine x8 zm zj (d0z hj.symm rfl)
  refine yX (zo (zD (zD (zr ?_))))
  refine zb ?_
  refine zW ?_
  refine yS (zI (zo ?_))
  refine yk (fun h8=> ?_) (fun h8=> ?_)<;>(try simp only[vX]at h8)
  ·rw[if_neg (by omega),if_pos (by omega)]at hj
   refine zD (zr ?_)
   refine zN ?_
   refine za 1 ?_
   refine zc (zI (zo (xc (xr ?_))))
   refine x8 zm zj (d0z hj.symm rfl)
  by_cases h10:f&&&8=0
  ·rw[if_pos h10,if_neg (by omega)]at hj
   have hnil:s.drop (1+m)= []:=List.eq_nil_of_length_eq_zero (by omega)
   have hne:(((f&&&8:Nat):Int) !=0)=false:=bne_eq_false_iff_eq.2 (by omega)
   simp only[hne,hb16,hnil]
   refine yX (zo (zD (zr ?_)))
   refine zb ?_
   (refine AO.op (O.call rfl Tryz.func69 rfl rfl rfl (a0s _ (by(simp<;>omega)))) rfl rfl rfl ?_)
   refine zt ?_
   refine za 0 (zI (zo (zD (zr ?_))))
   refine zB ?_
   refine za 1 ?_
   refine zc (zI (zo (xc ?_)))
   refine x8 zm xe (d0z hj.symm rfl)
  rw[if_neg h10,if_neg (by omega)]at hj
  have hne:(((f&&&8:Nat):Int) !=0)=true:=bne_iff_ne.2 (by omega)
  simp only[hne,hb16]
  refine yX (zo (zD (zr ?_)))
  refine zb ?_
  refine vT (xH rfl Tryz.func69 rfl rfl rfl (a0s _ (by omega))) ?_
  refine zt ?_
  refine za 0 (zI (zo (zD (zr ?_))))
  refine zB ?_
  refine za 1 ?_
  refine zc (zI (zo (xc ?_)))
  refine x8 zm xe (d0z hj.symm rfl)
 rw[if_pos (by omega)]at hj
 have hb16:(((f&&&16:Nat):Int) !=0)=false:=bne_eq_false_iff_eq.2 (by omega)
 unfold q0v at hj
 refine yX (zo (zD (zD (zr ?_))))
 refine zt ?_
 refine zy ?_
 refine xq ?_
 refine zb ?_
 refine yt ?_
 refine yb 106 ?_
 refine yp 107 ?_
 refine zV (zI (zo ?_))
 refine yk (fun h7=> ?_) (fun h7=> ?_)<;>(try simp only[vX]at h7)
 ·rw[if_pos (by omega),if_pos (by omega)]at hj
  refine zD (zr ?_)
  refine zN ?_
  refine za 1 ?_
  refine zc (zI (zo (xc (xr ?_))))
  refine x8 zm zj (d0z hj.symm rfl)
 refine yX (zo (zD (zD (zr ?_))))
 refine zb ?_
 refine zW ?_
 refine yS (zI (zo ?_))
 refine yk (fun h8=> ?_) (fun h8=> ?_)<;>(try simp only[vX]at h8)
 ·rw[if_neg (by omega),if_pos (by omega)]at hj
  refine zD (zr ?_)
  refine zN ?_
  refine za 1 ?_
  refine zc (zI (zo (xc (xr ?_))))
  refine x8 zm zj (d0z hj.symm rfl)
 by_cases h10:f&&&8=0
 ·rw[if_pos h10,if_neg (by omega)]at hj
  have hnil:s= []:=List.eq_nil_of_length_eq_zero (by omega)
  have hne:(((f&&&8:Nat):Int) !=0)=false:=bne_eq_false_iff_eq.2 (by omega)
  simp only[hne,hb16,hnil]
  refine yX (zo (zD (zr ?_)))
  refine zb ?_
  (refine AO.op (O.call rfl Tryz.func69 rfl rfl rfl (a0s _ (by(simp<;>omega)))) rfl rfl rfl ?_)
  refine zt ?_
  refine za 0 (zI (zo (zD (zr ?_))))
  refine zB ?_
  refine za 1 ?_
  refine zc (zI (zo (xc ?_)))
  refine x8 zm zj (d0z hj.symm rfl)
 rw[if_neg h10,if_neg (by omega)]at hj
 have hne:(((f&&&8:Nat):Int) !=0)=true:=bne_iff_ne.2 (by omega)
 simp only[hne,hb16]
 refine yX (zo (zD (zr ?_)))
 refine zb ?_
 refine vT (xH rfl Tryz.func69 rfl rfl rfl (a0s _ (by omega))) ?_
 refine zt ?_
 refine za 0 (zI (zo (zD (zr ?_))))
 refine zB ?_
 refine za 1 ?_
 refine zc (zI (zo (xc ?_)))
 refine x8 zm zj (d0z hj.symm rfl)
end Go.Proofs.YtojomcdjcpmnkaaGreat.By
namespace Go.Proofs.YtojomcdjcpmnkaaGreat.By
open Go.RowKit L A
attribute [local irreducible] AW AQ AO
theorem r0K: ∀{x y:Opt},x.num=y.num→x.val=y.val→x=y
 |⟨_,_⟩,⟨_,_⟩,rfl,rfl=>rfl
theorem r0J {a b:List Opt}(h:a.length=b.length)(h2: ∀k,k<a.length→oat a k=oat b k):a=b:=by
 refine List.ext_getElem h fun k h3 h4=> ?_
 have:=h2 k h3
 simpa[oat,h3,h4]using this
theorem m0B (a b:Msg)(h0:a.opts.length≤140737488355328):Sp Tryz.prog 18 [a0U a,a0U b] [] (Is (.val (.bool (decide (a=b))))):=by
 refine yN Tryz.func18 _ Tryz.ntmps18 (fun w0 R0=> ?_)
 refine zD (zr ?_)
 refine ye ?_
 intro B1
 refine ye ?_
 intro B2
 refine zc (zI (zo (zD (zD (zr ?_)))))
 refine zt ?_
 refine zn ?_
 refine zt ?_
 refine zy ?_
 refine y1 ?_
 refine zb ?_
 refine zM ?_
 refine zX 13 ?_
 refine zM ?_
 refine zv 15 ?_
 refine AO.opG rfl rfl rfl (fun hp=>wW 14 rfl (by exact hp) (wW 16 rfl (by exact hp) xo)) ?_
 refine zE ?_
 refine zb ?_
 refine zM ?_
 refine zX 20 ?_
 refine zM ?_
 refine zv 22 ?_
 refine AO.opG rfl rfl rfl (fun hp=>wW 21 rfl (by exact hp) (wW 23 rfl (by exact hp) xo)) ?_
 refine zE ?_
 refine zb ?_
 refine zM ?_
 refine zX 27 ?_
 refine AO.opG rfl rfl rfl (fun hp=>wW 28 rfl (by exact hp) (O.convS rfl rfl (by rfl))) ?_
 refine zM ?_
 refine zv 30 ?_
 refine AO.opG rfl rfl rfl (fun hp=>wW 31 rfl (by exact hp) (O.convS rfl rfl (by rfl))) ?_
 refine AO.opG rfl rfl rfl (fun hp=>wW 29 rfl (by exact hp) (wW 32 rfl (by exact hp) (O.neqS rfl rfl rfl (by rfl)))) ?_
 refine zE ?_
 refine zb ?_
 refine zM ?_
 refine zX 36 ?_
 refine AO.opG rfl rfl rfl (fun hp=>wW 37 rfl (by exact hp) (O.convS rfl rfl (by rfl))) ?_
 refine zM ?_
 refine zv 39 ?_
 refine AO.opG rfl rfl rfl (fun hp=>wW 40 rfl (by exact hp) (O.convS rfl rfl (by rfl))) ?_
 refine AO.opG rfl rfl rfl (fun hp=>wW 38 rfl (by exact hp) (wW 41 rfl (by exact hp) (O.neqS rfl rfl rfl (by rfl)))) ?_
 refine zE ?_
 refine zb ?_
 refine zM ?_
 refine zX 45 ?_
 refine yb 46 ?_
 refine zM ?_
 refine zv 48 ?_
 refine yb 49 ?_
 refine AO.opG rfl rfl rfl (fun hp=>wW 47 rfl (by exact hp) (wW 50 rfl (by exact hp) xo)) ?_
 refine zE (zI (zo ?_))
 refine yk (fun h=> ?_) (fun h=> ?_)<;>(try simp only[vX]at h)
 ·have e:decide (a=b)=false:=decide_eq_false fun e=>by subst e;simp at h
  refine zD (zr ?_)
  refine zc (zI (zo (xc (xr ?_))))
  refine vu rfl rfl nS (⟨congrArg (fun z=>AV.val (.bool z)) e.symm,rfl⟩)
 have hl:a.opts.length=b.opts.length:=by omega
 refine yX (zo (zD (zD (zr ?_))))
 refine zt ?_
 refine zn ?_
 refine zW ?_
 refine zb (zI (zo (xj ?_)))
 refine zh [(3,_),(54,_),(55,_)] (fun nn E H=> ∃(k:Nat),(k≤a.opts.length)∧((∀i,i<k→oat a.opts i=oat b.opts i))∧nn=a.opts.length-k∧E= [(56,.val (.int .i64 (k:Int)))]∧H= [.blk B2 29 6 [.val (.int .i64 b.ty),.val (.int .i64 b.code),.val (.int .i64 b.id),roB b.tok,roO b.opts,roB b.pay],.blk B1 29 6 [.val (.int .i64 a.ty),.val (.int .i64 a.code),.val (.int .i64 a.id),roB a.tok,roO a.opts,roB a.pay]]) _ (⟨0,by omega,fun i hi=>absurd hi (by omega),rfl,rfl,rfl⟩) ?_
 rintro nn E H ⟨k,h4,ha,rfl,rfl,rfl⟩
 dsimp only[cA,cN]
 refine zD (zr ?_)
 refine zP (zI (zo (zD ?_)))
 refine yk (fun h5=> ?_) (fun h5=> ?_)<;>(try simp only[vX]at h5)
 ·have hk:k<a.opts.length:=by omega
  have hk2:k<b.opts.length:=by omega
  refine yX (zo (zD (xj (zD (zr ?_)))))
  refine zb ?_
  refine z8 ?_
  refine yU ?_
  refine yg ?_
  intro B3
  refine zc ?_
  refine zp 0 (zI (zo (zD ?_)))
  refine yw 22 ?_
  simp only[cT,cZ,cD,cO]
  refine yr ?_
  refine yL ?_
  refine yr ?_
  refine zL ?_
  refine zG ?_
  refine xn ?_
  refine vS vR ?_
  refine vS (O.loadR rfl rfl (by exact s0d (by omega) (by omega))) ?_
  refine vS xo ?_
  refine zG ?_
  refine wq ?_
  refine FA.opG rfl rfl rfl rfl (fun hp=>wW 71 rfl (by exact hp) zk) ?_
  refine FA.opG rfl rfl rfl rfl (fun hp=>wW 72 rfl (by exact hp) (O.convS rfl rfl (by rfl))) ?_
  refine wq ?_
  refine FA.opG rfl rfl rfl rfl (fun hp=>xE 74 rfl (by exact hp)) ?_
  refine FA.opG rfl rfl rfl rfl (fun hp=>zg) ?_
  refine FA.opG rfl rfl rfl rfl (fun hp=>wW 75 rfl (by exact hp) (wW 76 rfl (by exact hp) z6)) ?_
  refine FA.opG rfl rfl rfl rfl (fun hp=>wW 77 rfl (by exact hp) vR) ?_
  refine FA.opG rfl rfl rfl rfl (fun hp=>wW 78 rfl (by exact hp) (O.loadR rfl rfl (by exact v0g (by omega) (by omega)))) ?_
  refine FA.opG rfl rfl rfl rfl (fun hp=>wW 79 rfl (by exact hp) (O.convS rfl rfl (by rfl))) ?_
  refine FA.opG rfl rfl rfl rfl (fun hp=>wW 73 rfl (by exact hp) (wW 80 rfl (by exact hp) (O.neqS rfl rfl rfl (by rfl)))) ?_
  refine vS zK ?_
  refine wZ ?_
  simp only[a0f,cN,cA,cP]
  refine zI (zo ?_)
  refine yk (fun h6=> ?_) (fun h6=> ?_)<;>(try simp only[vX]at h6)
  ·have e:decide (a=b)=false:=decide_eq_false fun e=>by subst e;simp at h6
   refine zD (zr ?_)
   refine zc (zI (zo (xc ?_)))
   refine wi (xr ?_)
   refine AQ.loopR ?_
   refine wi (xr ?_)
   refine vu rfl rfl nS (⟨congrArg (fun z=>AV.val (.bool z)) e.symm,rfl⟩)
  have ha2: ∀i,i<k+1→oat a.opts i=oat b.opts i:=by
   intro i hi
   rcases Nat.lt_or_ge i k with h7|h7
   ·exact ha i h7
   obtain rfl:i=k:=by omega
   exact r0K h6.1 h6.2
  refine yX (xz (zo (zr ?_)))
  refine zA ?_
  refine zb (zI ?_)
  refine zJ _ _ _ (by omega) (⟨k+1,by omega,ha2,rfl,rfl,rfl⟩)
 have e:decide (a=b)=true:=decide_eq_true (by
  have:=r0J hl fun i hi=>ha i (by omega)
  obtain⟨⟨⟨⟨⟨e1,e2⟩,e3⟩,e4⟩,e5⟩, -⟩:=h
  obtain⟨_,_,_,_,_,_⟩:=a
  obtain⟨_,_,_,_,_,_⟩:=b
  simp_all)
 refine wb ?_
 refine xY ?_
 refine x3 ?_
 refine xx (zo (zD (zr ?_)))
 refine zc (zI (zo (xc ?_)))
 refine vu rfl rfl nS (⟨congrArg (fun z=>AV.val (.bool z)) e.symm,rfl⟩)
abbrev g0r (r:Msg×Int):AV:= .tup [a0U r.1,.val (.int .i64 r.2)]
theorem m0F {q:AV}{r:Msg×Int}{c:Msg}{e:Int}(h:r=(c,e))(hq:q= .tup [a0U c,.val (.int .i64 e)]):Is (g0r r) q []:=by subst h;exact⟨hq,rfl⟩
end Go.Proofs.YtojomcdjcpmnkaaGreat.By
namespace Go.Proofs.YtojomcdjcpmnkaaGreat.By
open Go.RowKit L A
open Classical in
noncomputable def b0Y (b:List UInt8):Msg×Int:=
 if 4096<b.length then(Msg.none,8)else if b.length<4 then(Msg.none,2)else if h: ∃m,OkM m∧raw m=b then(Classical.choose h,0)else(Msg.none,4)
theorem g0b {b:List UInt8}(h1:b.length≤4096)(h2:4≤b.length)(h: ∀m,OkM m→raw m≠b):b0Y b=(Msg.none,4):=by
 unfold b0Y
 rw[if_neg (by omega),if_neg (by omega),dif_neg fun⟨m,h3,h4⟩=>h m h3 h4]
theorem k0R {b:List UInt8}{m:Msg}(h1:b.length≤4096)(h2:4≤b.length)(hm:OkM m)(hr:raw m=b)(h: ∀m0,OkM m0→raw m0=b→m0=m):b0Y b=(m,0):=by
 unfold b0Y
 have hx: ∃m,OkM m∧raw m=b:=⟨m,hm,hr⟩
 rw[if_neg (by omega),if_neg (by omega),dif_pos hx,h _ (Classical.choose_spec hx).1 (Classical.choose_spec hx).2]
def a0X (r:List UInt8)(bad:Bool)(n:Int):List UInt8×List UInt8×Bool:=if(r.length:Int)<n then(List.replicate (min n 4).toNat 0,r,true)else(r.take n.toNat,r.drop n.toNat,bad)
def f0G (r:List UInt8)(bad:Bool)(n:Int):Int×List UInt8×Bool:=
 if n=13 then(((bt (a0X r bad 1).1 0).toNat:Int)+13,(a0X r bad 1).2)
 else if n=14 then(((bt (a0X r bad 2).1 0).toNat:Int)*256+((bt (a0X r bad 2).1 1).toNat:Int)+269,(a0X r bad 2).2)
 else(n,r,if n=15 then true else bad)
theorem c0n (v t:List UInt8)(bad:Bool){n:Int}(h:n=v.length):a0X (v++t) bad n=(v,t,bad):=by
 subst h
 unfold a0X
 rw[if_neg (by simp;omega)]
 simp
theorem c0m (r:List UInt8)(bad:Bool)(n:Int)(h:0≤n):(a0X r bad n).2.1.length≤r.length∧((a0X r bad n).1.length:Int)≤n∧(n≤4→((a0X r bad n).1.length:Int)=n):=by
 unfold a0X
 split<;>simp<;>omega
theorem f0c {x:Int}(h:0≤x∧x≤65804)(t:List UInt8)(bad:Bool):f0G ((ext x).2++t) bad (ext x).1=(x,t,bad):=by
 unfold ext
 split
 ·unfold f0G;rw[if_neg (by simp;omega),if_neg (by simp;omega),if_neg (by simp;omega)];rfl
 split
 ·unfold f0G
  rw[if_pos rfl,c0n [u8 (x-13)] t bad (n:=1) rfl]
  have:=a0F (x:=x-13) (by omega)
  simp[bt]at this⊢
  omega
 unfold f0G
 rw[if_neg (by simp),if_pos rfl,c0n [u8 ((x-269)/256),u8 (x-269)] t bad (n:=2) rfl]
 have h1:=a0F (x:=(x-269)/256) (by omega)
 have h2:=c0d (x-269)
 simp[bt]at h1 h2⊢
 omega
theorem n0q (r:List UInt8)(bad:Bool){n:Int}(h:0≤n∧n≤15):0≤(f0G r bad n).1∧(f0G r bad n).1≤65804∧(f0G r bad n).2.1.length≤r.length:=by
 have h1:=c0m r bad 1 (by omega)
 have h2:=c0m r bad 2 (by omega)
 unfold f0G
 split
 ·have:=b0u (bt (a0X r bad 1).1 0)
  refine⟨?_,?_,h1.1⟩<;>simp only<;>omega
 split
 ·have:=b0u (bt (a0X r bad 2).1 0)
  have:=b0u (bt (a0X r bad 2).1 1)
  refine⟨?_,?_,h2.1⟩<;>simp only<;>omega
 refine⟨?_,?_,Nat.le_refl _⟩<;>simp only<;>omega
def l0f (m:Msg):List UInt8:=if m.pay= []then []else 255::m.pay
def c0z (m:Msg)(k:Nat):List UInt8:=g0H (a0N 0 (m.opts.take k)) (m.opts.drop k)++l0f m
theorem m0G (m:Msg):raw m=f0K m++(m.tok++c0z m 0):=by simp[raw,c0z,l0f,a0N]
theorem k0u {m:Msg}{k:Nat}(h:m.opts.length≤k):c0z m k=l0f m:=by simp[c0z,List.drop_eq_nil_of_le h,g0H]
theorem f0x {m:Msg}{k:Nat}(h:k<m.opts.length):c0z m k=u8 (16*(ext ((oat m.opts k).num-a0N 0 (m.opts.take k))).1+(ext ((oat m.opts k).val.length:Int)).1)::((ext ((oat m.opts k).num-a0N 0 (m.opts.take k))).2++((ext ((oat m.opts k).val.length:Int)).2++((oat m.opts k).val++c0z m (k+1)))):=by
 rw[c0z,i0I Opt.none h,g0H,hdr,c0z,a0g Opt.none h,b0j]
 simp
def Fits (b:List UInt8)(opts:List Opt)(last:Int)(r:List UInt8)(bad:Bool):Prop:=
 ∀m,OkM m→raw m=b→bad=false∧opts.length≤m.opts.length∧r=c0z m opts.length∧last=a0N 0 opts∧opts=m.opts.take opts.length
theorem Fits.more {b:List UInt8}{opts:List Opt}{last:Int}{r:List UInt8}{bad:Bool}(h:Fits b opts last r bad){m:Msg}(hm:OkM m)(hr:raw m=b)(h1:r≠ [])(h2:bt r 0≠255):opts.length<m.opts.length:=by
 obtain⟨-,h3,h4, -, -⟩:=h m hm hr
 rcases Nat.lt_or_ge opts.length m.opts.length with h5|h5
 ·exact h5
 rw[k0u h5,l0f]at h4
 split at h4
 ·exact absurd h4 h1
 subst h4;exact absurd rfl h2
theorem Fits.ends {b:List UInt8}{opts:List Opt}{last:Int}{r:List UInt8}{bad:Bool}(h:Fits b opts last r bad){m:Msg}(hm:OkM m)(hr:raw m=b)(h1:bad=true∨r= []∨bt r 0=255):bad=false∧opts=m.opts∧r=l0f m:=by
 obtain⟨h0,h3,h4,h6,h7⟩:=h m hm hr
 rcases Nat.lt_or_ge opts.length m.opts.length with h5|h5
 ·rw[f0x h5]at h4
  have h8:=d0d hm.2.2.1 h5
  have h9:=d0T (b0Z hm.2.2.1 opts.length) (by omega)
  have e1:=c0f ((oat m.opts opts.length).num-a0N 0 (m.opts.take opts.length)) (by omega)
  have e2:=c0f ((oat m.opts opts.length).val.length:Int) (by omega)
  rcases h1 with h1|h1|h1
  ·rw[h0]at h1;cases h1
  ·rw[h1]at h4;cases h4
  have e3:=a0F (x:=16*(ext ((oat m.opts opts.length).num-a0N 0 (m.opts.take opts.length))).1+(ext ((oat m.opts opts.length).val.length:Int)).1) (by omega)
  rw[h4]at h1
  have h1':u8 (16*(ext ((oat m.opts opts.length).num-a0N 0 (m.opts.take opts.length))).1+(ext ((oat m.opts opts.length).val.length:Int)).1)=255:=h1
  rw[h1']at e3
  have:((255:UInt8).toNat:Int)=255:=rfl
  omega
 refine⟨h0,?_,?_⟩
 ·rw[List.take_of_length_le h5]at h7;exact h7
 rw[k0u h5]at h4;exact h4
theorem Fits.parts {b:List UInt8}{opts:List Opt}{last:Int}{r:List UInt8}{bad:Bool}(h:Fits b opts last r bad){m:Msg}(hm:OkM m)(hr:raw m=b)(h1:r≠ [])(h2:bt r 0≠255):
  ∃o d n,opts.length<m.opts.length∧o=oat m.opts opts.length∧d=o.num-last∧n=(o.val.length:Int)∧0≤d∧d≤65535∧n≤1034∧((bt r 0).toNat:Int)=16*(ext d).1+(ext n).1∧r.drop 1=(ext d).2++((ext n).2++(o.val++c0z m (opts.length+1))):=by
 have h5:=h.more hm hr h1 h2
 obtain⟨h0,h3,h4,h6,h7⟩:=h m hm hr
 rw[f0x h5,←h7,←h6]at h4
 have h8:=d0d hm.2.2.1 h5
 have h9:=d0T (b0Z hm.2.2.1 opts.length) (by omega)
 rw[←h7,←h6]at h8 h9
 have e1:=c0f ((oat m.opts opts.length).num-last) (by omega)
 have e2:=c0f ((oat m.opts opts.length).val.length:Int) (by omega)
 refine⟨_,_,_,h5,rfl,rfl,rfl,by omega,by omega,by omega,?_,by rw[h4];rfl⟩
 rw[h4]
 exact a0F (by omega)
theorem Fits.step {b:List UInt8}{opts:List Opt}{last:Int}{r r1 r2 r3:List UInt8}{b1 b2 b3:Bool}{v1 v2:Int}{x:List UInt8}(h:Fits b opts last r false)(h1:r≠ [])(h2:bt r 0≠255)
  (e1:f0G (r.drop 1) false (((bt r 0).toNat:Int)/16)=(v1,r1,b1)) (e2:f0G r1 b1 (((bt r 0).toNat:Int)%16)=(v2,r2,b2)) (e3:a0X r2 b2 v2=(x,r3,b3)):Fits b (opts++[⟨last+v1,x⟩]) (last+v1) r3 b3:=fun m hm hr=>by
 obtain⟨o,d,n,h5,h6,h7,h8,h9,h10,h11,h12,h13⟩:=h.parts hm hr h1 h2
 obtain⟨-, -, -,h16,h17⟩:=h m hm hr
 have q1:=c0f d h9
 have q2:=c0f n (by omega)
 rw[h12,show(16*(ext d).1+(ext n).1)/16=(ext d).1 by omega,h13,f0c (by omega)]at e1
 simp only[Prod.mk.injEq]at e1
 obtain⟨e11,e12,e13⟩:=e1
 subst e12;subst e13
 rw[h12,show(16*(ext d).1+(ext n).1)%16=(ext n).1 by omega,f0c (by omega)]at e2
 simp only[Prod.mk.injEq]at e2
 obtain⟨e21,e22,e23⟩:=e2
 subst e22;subst e23
 rw[c0n _ _ _ (e21.symm.trans h8)]at e3
 simp only[Prod.mk.injEq]at e3
 obtain⟨e31,e32,e33⟩:=e3
 subst e31;subst e32;subst e33
 have hl:last+v1=o.num:=by omega
 refine⟨rfl,by simp;omega,by simp,by rw[b0j],?_⟩
 rw[cH,List.length_singleton,a0g Opt.none h5,←h17,hl,h6]
theorem Fits.start {b:List UInt8}:(∀m,OkM m→raw m=b→((bt b 0).toNat:Int)=64+16*m.ty+m.tok.length∧((bt b 1).toNat:Int)=m.code∧((bt b 2).toNat:Int)=m.id/256∧((bt b 3).toNat:Int)=m.id%256∧b.drop 4=m.tok++c0z m 0):=fun m hm hr=>by
 have h1:=hm.1
 have h2:=hm.2.1
 subst hr
 rw[m0G]
 refine⟨a0F (by omega),a0F (by omega),a0F (by omega),c0d _,rfl⟩
theorem Fits.first {b x r:List UInt8}{bad:Bool}(e:a0X (b.drop 4) false (((bt b 0).toNat:Int)%16)=(x,r,bad)):Fits b [] 0 r bad∧ ∀m,OkM m→raw m=b→x=m.tok:=by
 have key: ∀m,OkM m→raw m=b→x=m.tok∧r=c0z m 0∧bad=false:=fun m hm hr=>by
  obtain⟨h1, -, -, -,h5⟩:=Fits.start m hm hr
  have h2:=hm.2.1
  rw[h1,h5,c0n _ _ _ (by omega)]at e
  cases e
  exact⟨rfl,rfl,rfl⟩
 exact⟨fun m hm hr=>⟨(key m hm hr).2.2,Nat.zero_le _,(key m hm hr).2.1,rfl,rfl⟩,fun m hm hr=>(key m hm hr).1⟩
theorem Fits.all {b x r:List UInt8}{opts:List Opt}{last:Int}{bad:Bool}(h:Fits b opts last r bad)(hx: ∀m,OkM m→raw m=b→x=m.tok)(h1:bad=true∨r= []∨bt r 0=255){pay:List UInt8}(hp:pay=r.drop 1){ty code id:Int}
  (hty:ty=((bt b 0).toNat:Int)/16%4) (hcode:code=((bt b 1).toNat:Int)) (hid:id=((bt b 2).toNat:Int)*256+((bt b 3).toNat:Int)): ∀m,OkM m→raw m=b→bad=false∧m=⟨ty,code,id,x,opts,pay⟩:=fun m hm hr=>by
 obtain⟨g1,g2,g3,g4, -⟩:=Fits.start m hm hr
 obtain⟨h3,h4,h5⟩:=h.ends hm hr h1
 have q1:=hm.1
 have q2:=hm.2.1
 have hpay:pay=m.pay:=by
  rw[hp,h5,l0f]
  split
  ·rename_i e;rw[e];rfl
  rfl
 refine⟨h3,?_⟩
 obtain⟨ty',code',id',tok',opts',pay'⟩:=m
 simp only at g1 g2 g3 g4 q1 q2 h4 hpay
 have:=hx _ hm hr
 simp only at this
 subst this;subst h4;subst hpay
 rw[Msg.mk.injEq]
 refine⟨by omega,by omega,by omega,rfl,rfl,rfl⟩
theorem Fits.own {m:Msg}(hm:OkM m): ∀k,k≤m.opts.length→Fits (raw m) (m.opts.take k) (a0N 0 (m.opts.take k)) (c0z m k) false
 | 0,_=>by
  have h1:=hm.1
  have h2:=hm.2.1
  have e0:((bt (raw m) 0).toNat:Int)=64+16*m.ty+m.tok.length:=(Fits.start m hm rfl).1
  have e:a0X ((raw m).drop 4) false (((bt (raw m) 0).toNat:Int)%16)=(m.tok,c0z m 0,false):=by
   rw[(Fits.start m hm rfl).2.2.2.2,c0n _ _ _ (by omega)]
  exact(Fits.first e).1
 | k+1,h=>by
  have ih:=Fits.own hm k (by omega)
  have h5:k<m.opts.length:=by omega
  have h8:=d0d hm.2.2.1 h5
  have h9:=d0T (b0Z hm.2.2.1 k) (by omega)
  have hr:=f0x (m:=m) h5
  generalize hd:(oat m.opts k).num-a0N 0 (m.opts.take k)=d at hr
  generalize hn:((oat m.opts k).val.length:Int)=n at hr
  have e1:=c0f d (by omega)
  have e2:=c0f n (by omega)
  have hb:bt (c0z m k) 0=u8 (16*(ext d).1+(ext n).1):=by rw[hr];rfl
  have hu:=a0F (x:=16*(ext d).1+(ext n).1) (by omega)
  have s:=ih.step (v1:=d) (r1:=(ext n).2++((oat m.opts k).val++c0z m (k+1))) (b1:=false) (v2:=n) (r2:=(oat m.opts k).val++c0z m (k+1)) (b2:=false) (x:=(oat m.opts k).val) (r3:=c0z m (k+1)) (b3:=false)
   (by rw[hr];simp) (fun e=>by
    rw[hb]at e
    rw[e]at hu
    have:((255:UInt8).toNat:Int)=255:=rfl
    omega)
   (by rw[hb,hu,show(16*(ext d).1+(ext n).1)/16=(ext d).1 by omega,hr];exact f0c (by omega) _ _)
   (by rw[hb,hu,show(16*(ext d).1+(ext n).1)%16=(ext n).1 by omega];exact f0c (by omega) _ _)
   (c0n _ _ _ hn.symm)
  rw[show a0N 0 (m.opts.take k)+d=(oat m.opts k).num by omega]at s
  rw[a0g Opt.none h5,b0j]
  exact s
theorem n0Q {b:List UInt8}(h:(b0Y b).2=0):ValM (b0Y b).1∧raw (b0Y b).1=b:=by
 unfold b0Y at h⊢
 split at h
 ·cases h
 split at h
 ·cases h
 split at h
 ·rename_i h1 h2 h3
  rw[if_neg h1,if_neg h2,dif_pos h3]
  have:=Classical.choose_spec h3
  exact⟨⟨this.1,by rw[this.2];omega⟩,this.2⟩
 cases h
end Go.Proofs.YtojomcdjcpmnkaaGreat.By
