/-
  Texts laid together (part 4): what the statement's walk and plain law need. No condition.
-/
import Derived.Test.YtojomcdjcpmnkaaGreatZo3
set_option linter.unusedVariables false
set_option linter.unusedSimpArgs false
set_option maxRecDepth 20000
set_option maxHeartbeats 4000000
namespace Go.Proofs.YtojomcdjcpmnkaaGreat.By
open Go.RowKit L A
attribute [local irreducible] AW AQ AO
theorem s0v {kid:List UInt8}{piv:Int}(h:7<kid.length):i0F kid piv=([],1):=if_pos h
theorem s0u {kid:List UInt8}{piv:Int}(h: ¬7<kid.length)(h2:piv<0∨1099511627775<piv):i0F kid piv=([],8):=(if_neg h).trans (if_pos h2)
theorem s0t {kid:List UInt8}{piv:Int}(h: ¬7<kid.length)(h2: ¬(piv<0∨1099511627775<piv)):i0F kid piv=(u0p kid (b0T piv),0):=(if_neg h).trans (if_neg h2)
theorem k0s (kid:List UInt8)(piv:Int):Sp Tryz.prog 67 [roB kid,.val (.int .i64 piv)] [] (Is (u0x (i0F kid piv))):=by
 refine yX Tryz.func67 _ Tryz.ntmps67 (fun w0 R0=> ?_)
 refine zD (zr ?_)
 refine zc ?_
 refine zc (zJ (zn (zD (zD (zr ?_)))))
 refine zb ?_
 refine zX ?_
 refine yZ (zJ (zn ?_))
 refine yt (fun h1=> ?_) (fun h1=> ?_)<;>(try simp only[vT]at h1)
 ·rw[s0v (by omega)]
  refine zD (zr ?_)
  refine zc ?_
  refine zc (zJ (zn (xj (xx ?_))))
  refine wa yV yv (⟨rfl,rfl⟩)
 have hk:kid.length≤7:=by omega
 refine y6 (zn (zD (zD (zr ?_))))
 refine zb ?_
 refine zT ?_
 refine zb ?_
 refine yC ?_
 refine yB 13 ?_
 refine zI (zJ (zn ?_))
 refine yt (fun h2=> ?_) (fun h2=> ?_)<;>(try simp only[vT]at h2)
 ·rw[s0u (by omega) (by omega)]
  refine zD (zr ?_)
  refine zc ?_
  refine zc (zJ (zn (xj (xx ?_))))
  refine wa yV yv (⟨rfl,rfl⟩)
 rw[s0t (by omega) (by omega)]
 have hpl:=c0Y piv
 have hxl:=f0L hk hpl
 have hxe:=r0M (kid:=kid) (pb:=b0T piv) (by omega) (by omega)
 have hoe:=r0L hk hpl
 have hol:(u0p kid (b0T piv)).length≤100000:=by
  rw[←hoe,p0s (by show 3<24;omega),g0U,b0o (by show 3<24;omega)]
  simp only[s0w,List.map_cons,List.map_nil,List.flatten_cons,List.flatten_nil,cP,cH,cL,cE]
  rw[f0y (k:=3) (m:=3) (b:=i0E) rfl (.inr rfl) (by decide),f0y (k:=2) (m:=2) rfl (.inl rfl) (by simp),f0y (k:=2) (m:=2) rfl (.inl rfl) hxl,b0o hxl]
  simp[b0o,i0E];omega
 have hl1:=e0q 0 [.mk 0 ((10:Nat):Int) [] []] (by simp) (fun y hy=>by obtain rfl:=List.mem_singleton.1 hy;exact a0M (by simp))
 have hl5:=e0q 1 (u0o kid (b0T piv)) (by show 5≤1000;omega) (by
  intro y hy
  simp only[u0o,List.mem_cons,List.not_mem_nil,or_false]at hy
  rcases hy with rfl|rfl|rfl|rfl|rfl
  ·exact a0M (by simp)
  ·exact⟨by simp,by simp,fun z hz=>by obtain rfl:=List.mem_singleton.1 hz;exact a0M (by simp)⟩
  ·exact a0M (by omega)
  ·exact a0M (by omega)
  exact a0M (by simp))
 have hl3:=e0q 0 (s0w (j0P kid (b0T piv))) (by show 3≤1000;omega) (by
  intro y hy
  simp only[s0w,List.mem_cons,List.not_mem_nil,or_false]at hy
  rcases hy with rfl|rfl|rfl
  ·exact a0M (by decide)
  ·exact a0M (by simp)
  exact a0M (by omega))
 have hr5:=g0i 2 (.mk 4 0 [] (u0o kid (b0T piv))) (.inr ⟨rfl,rfl,rfl,by show 5<24;omega,by
  intro y hy
  simp only[u0o,List.mem_cons,List.not_mem_nil,or_false]at hy
  rcases hy with rfl|rfl|rfl|rfl|rfl
  ·exact .inl ⟨rfl,.inl ⟨.inl rfl,by omega,by omega,rfl⟩⟩
  ·exact .inr ⟨rfl,rfl,rfl,by simp,fun z hz=>by obtain rfl:=List.mem_singleton.1 hz;exact⟨rfl,.inl ⟨.inl rfl,by omega,by omega,rfl⟩⟩⟩
  ·exact .inl ⟨rfl,.inr ⟨.inl rfl,rfl,by omega⟩⟩
  ·exact .inl ⟨rfl,.inr ⟨.inl rfl,rfl,by omega⟩⟩
  exact .inl ⟨rfl,.inr ⟨.inl rfl,rfl,by simp⟩⟩⟩) (by rw[hxe];omega)
 have hr3:=g0i 1 (.mk 4 0 [] (s0w (j0P kid (b0T piv)))) (.inr ⟨rfl,rfl,rfl,by show 3<24;omega,by
  intro y hy
  simp only[s0w,List.mem_cons,List.not_mem_nil,or_false]at hy
  rcases hy with rfl|rfl|rfl
  ·exact⟨rfl,.inr ⟨.inr rfl,rfl,by decide⟩⟩
  ·exact⟨rfl,.inr ⟨.inl rfl,rfl,by simp⟩⟩
  exact⟨rfl,.inr ⟨.inl rfl,rfl,hxl⟩⟩⟩) (by rw[hoe];exact hol)
 unfold h0a at hr5 hr3
 rw[hxe]at hr5
 rw[hoe]at hr3
 generalize j0P kid (b0T piv)=x at*
 generalize u0p kid (b0T piv)=y at*
 rw[d0M]at hl1 hl5 hl3 hr5 hr3
 simp only[u0o,s0w,e0w,f0h,d0M,cP,cA,cN,cL,cE,Nat.zero_add,Nat.reduceAdd]at hl1 hl5 hl3 hr5 hr3
 refine y6 (zn (zD (zr ?_)))
 refine vO (xM rfl Tryz.func124 rfl rfl rfl (e0T _ ⟨by omega,by omega⟩)) ?_
 refine vO (xM rfl Tryz.func124 rfl rfl rfl (e0T _ ⟨by omega,by omega⟩)) ?_
 refine zR ?_
 intro B1
 refine AO.g ?_
 refine yi 0 18 ?_
 refine wm 18 ?_
 refine AO.u ?_
 dsimp only[List.eraseIdx]
 refine vO (xM rfl Tryz.func123 rfl rfl rfl hl1) ?_
 refine zb ?_
 refine vO (xM rfl Tryz.func125 rfl rfl rfl (d0q _ (by omega))) ?_
 refine zb ?_
 refine vO (xM rfl Tryz.func74 rfl rfl rfl (i0V _)) ?_
 refine vO (xM rfl Tryz.func125 rfl rfl rfl (d0q _ (by omega))) ?_
 refine vO (O.callC rfl Tryz.func125 rfl rfl rfl (d0q [] (by simp)) (by(repeat(first|exact CoeL.nil|refine CoeL.cons Coe.nil ?_));done)) ?_
 refine xy ?_
 intro B2
 refine AO.g ?_
 refine yi 0 26 ?_
 refine wm 26 ?_
 refine AO.u ?_
 dsimp only[List.eraseIdx]
 refine vO (xM rfl Tryz.func123 rfl rfl rfl hl5) ?_
 refine vO (xM rfl Tryz.func122 rfl rfl rfl hr5) ?_
 refine zc (zJ (zn (zD (zr ?_))))
 refine vO (xM rfl Tryz.func126 rfl rfl rfl q0s) ?_
 refine vO (O.callC rfl Tryz.func125 rfl rfl rfl (d0q [] (by simp)) (by(repeat(first|exact CoeL.nil|refine CoeL.cons Coe.nil ?_));done)) ?_
 refine zb ?_
 refine vO (xM rfl Tryz.func125 rfl rfl rfl (d0q _ (by omega))) ?_
 refine xy ?_
 intro B3
 refine AO.g ?_
 refine yi 0 33 ?_
 refine wm 33 ?_
 refine AO.u ?_
 dsimp only[List.eraseIdx]
 refine vO (xM rfl Tryz.func123 rfl rfl rfl hl3) ?_
 refine vO (xM rfl Tryz.func122 rfl rfl rfl hr3) ?_
 refine zc ?_
 refine zc (zJ (zn (xj ?_)))
 refine xS
theorem f0A (k n:Int)(hk:0≤k∧k≤7)(hn:0≤n∧n<24):Sp Tryz.prog 151 [.val (.int .u8 k),.val (.int .u64 n)] [] (b0p 5 1 1 (a0a [u8 (32*k+n)])):=by
 have e:k*32+n=((u8 (32*k+n)).toNat:Int):=by rw[a0I (by omega)];omega
 have e2:a0e (a0x 1 (Value.int IntKind.u8 0)) (0*1) (AV.val (Value.int IntKind.u8 (k*32+n))).cells=a0a [u8 (32*k+n)]:=by
  show [AV.val (.int .u8 (k*32+n))]= [AV.val (.int .u8 ((u8 (32*k+n)).toNat:Int))]
  rw[←e]
 refine yX Tryz.func151 _ Tryz.ntmps151 (fun w0 R0=> ?_)
 refine zD (zr ?_)
 refine zc (zJ (zn (zD (zr ?_))))
 refine zb ?_
 refine vO (O.shlK 5 32 rfl rfl rfl rfl (by rfl) (by exact wU8 (by omega))) ?_
 refine zc (zJ (zn (zD (xo (zD (zr ?_))))))
 refine zb ?_
 refine vO (O.lss rfl rfl rfl (by exact p0J (by omega))) ?_
 refine zc (zJ (zn ?_))
 refine AW.condT rfl (zD (zr ?_))
 refine zb ?_
 refine zb ?_
 refine vO (O.conv rfl rfl (by exact wU8 (by omega))) ?_
 refine vO (O.or_ rfl rfl rfl (x0o 5 (m:=32) (by decide) (by omega) (by omega))) ?_
 refine zR ?_
 intro B1
 refine zc (zJ (zn (xj ?_)))
 refine ww (xx ?_)
 refine AQ.g ?_
 refine G.closeRow (n:=1) (cap:=1) 0 rfl rfl rfl (Nat.le_refl _) (by(unfold maxLen;omega)) ?_
 refine AQ.u ?_
 dsimp only[List.set]
 rw[e2]
 refine vz rfl rfl ⟨_,by repeat(first|exact List.Sublist.slnil|refine List.Sublist.cons_cons _ ?_),List.Perm.refl _⟩ (⟨_,rfl,rfl,rfl⟩)
theorem n0y (n:Nat)(hn:n<24):Sp Tryz.prog 110 [.val (.int .i64 (n:Int))] [] (Is (roB (f0q n))):=by
 rw[f0q,b0o hn,show UInt8.ofNat (32*0+n)=u8 (32*0+(n:Int)) by rw[show 32*0+(n:Int)=((32*0+n:Nat):Int) by omega,e0M]]
 refine yX Tryz.func110 _ Tryz.ntmps110 (fun w0 R0=> ?_)
 refine zD (zr ?_)
 refine zc (zJ (zn (zD (zD (zr ?_)))))
 refine zb ?_
 refine vO (O.lss rfl rfl rfl (by exact e0G (by omega))) (zJ (zn ?_))
 refine AW.condF rfl (y6 (zn (zD (zr ?_))))
 refine zb ?_
 refine wg ?_
 refine vR (xM rfl Tryz.func151 rfl rfl rfl (f0A _ _ ⟨by omega,by omega⟩ ⟨by omega,by omega⟩)) ?_
 intro V1 hV1
 refine zc (zJ (zn (xj ?_)))
 refine AQ.g ?_
 refine yf 0 [2] ?_
 refine AQ.u ?_
 try dsimp only[List.map,List.eraseIdx,cA,cN]
 refine yM
theorem f0P (b:List UInt8)(hb:b.length<24):Sp Tryz.prog 111 [roB b] [] (Is (roB (c0H b))):=by
 have e1:a0a [u8 (32*2+(b.length:Int))]++a0a b=a0a (c0H b):=by
  rw[c0H,b0o hb,show u8 (32*2+(b.length:Int))=UInt8.ofNat (32*2+b.length) by rw[show 32*2+(b.length:Int)=((32*2+b.length:Nat):Int) by omega,e0M]];rfl
 have e2:1+b.length=(c0H b).length:=by rw[c0H,b0o hb,cH];rfl
 refine yX Tryz.func111 _ Tryz.ntmps111 (fun w0 R0=> ?_)
 refine zD (zr ?_)
 refine zc (zJ (zn (zD (zr ?_))))
 refine zb ?_
 refine zX ?_
 refine wg ?_
 refine vR (xM rfl Tryz.func151 rfl rfl rfl (f0A _ _ ⟨by omega,by omega⟩ ⟨by omega,by omega⟩)) ?_
 intro V1 hV1
 refine zb ?_
 refine zF 0 ?_
 intro V2 hV2
 refine zc (zJ (zn (xj ?_)))
 rw[e1,e2]
 refine AQ.g ?_
 refine yf 0 [2] ?_
 refine AQ.u ?_
 try dsimp only[List.map,List.eraseIdx,cA,cN]
 refine yM
theorem s0D:Sp Tryz.prog 113 [.val (.string ⟨#[69,110,99,114,121,112,116,48]⟩)] [] (Is (roB (l0e i0E))):=by
 have e1:a0a [u8 (32*3+8)]++a0a i0E=a0a (l0e i0E):=rfl
 have z1:(⟨#[69,110,99,114,121,112,116,48]⟩:ByteArray).size=8:=rfl
 have z2:(⟨#[69,110,99,114,121,112,116,48]⟩:ByteArray).data.toList.length=8:=rfl
 have z3:(⟨#[69,110,99,114,121,112,116,48]⟩:ByteArray).toList.length=8:=by decide +kernel
 refine yX Tryz.func113 _ Tryz.ntmps113 (fun w0 R0=> ?_)
 refine zD (zr ?_)
 refine zc (zJ (zn (zD (zr ?_))))
 refine zb ?_
 refine vO (O.lenS rfl rfl) ?_
 refine wg ?_
 refine vR (xM rfl Tryz.func151 rfl rfl rfl (f0A 3 8 ⟨by omega,by omega⟩ ⟨by omega,by omega⟩)) ?_
 intro V1 hV1
 refine zb ?_
 refine AO.append' (i:=0) rfl rfl rfl rfl (by rfl) (by rfl) rfl rfl rfl (by exact SrcA.str TyD.ax (by rfl)) (by rfl) (by(unfold maxLen;omega)) (by omega) (by(dsimp only[List.set,cA,cN,List.take,List.drop];done)) (fun _=>by(dsimp only[List.set];done)) ?_
 intro V2 hV2
 refine zc (zJ (zn (xj ?_)))
 rw[show a0a [u8 (32*3+8)]++List.map AV.val (byteCells ⟨#[69,110,99,114,121,112,116,48]⟩)=a0a (l0e i0E) by kernel_rfl,show 1+(⟨#[69,110,99,114,121,112,116,48]⟩:ByteArray).size=(l0e i0E).length by rfl]
 refine AQ.g ?_
 refine yf 0 [2] ?_
 refine AQ.u ?_
 try dsimp only[List.map,List.eraseIdx,cA,cN]
 refine yM
theorem e0z (l:List (List UInt8))(k:Nat):(l.take k).flatten.length≤l.flatten.length:=by
 conv=>rhs;rw[←List.take_append_drop k l]
 rw[List.flatten_append,cH];omega
theorem g0v (l:List (List UInt8)){k:Nat}(h:k<l.length):(l.take (k+1)).flatten=(l.take k).flatten++vat l k:=by
 rw[a0i [] h,List.flatten_append];simp[vat]
theorem j0X (l:List (List UInt8))(hl:l.length<24)(hf:l.flatten.length≤100000):Sp Tryz.prog 109 [u0v l] [] (Is (roB (g0U l))):=by
 have ea:g0U l=u8 (32*4+(l.length:Int))::l.flatten:=by
  rw[g0U,b0o hl,show u8 (32*4+(l.length:Int))=UInt8.ofNat (32*4+l.length) by rw[show 32*4+(l.length:Int)=((32*4+l.length:Nat):Int) by omega,e0M]];rfl
 rw[ea]
 refine yX Tryz.func109 _ Tryz.ntmps109 (fun w0 R0=> ?_)
 refine zD (zr ?_)
 refine zc (zJ (zn (zD (zr ?_))))
 refine zb ?_
 refine zX ?_
 refine wg ?_
 refine vR (xM rfl Tryz.func151 rfl rfl rfl (f0A _ _ ⟨by omega,by omega⟩ ⟨by omega,by omega⟩)) ?_
 intro V1 hV1
 refine zc (zJ (zn (zD (zD (zr ?_)))))
 refine zb ?_
 refine zX ?_
 refine zb (zJ (zn (xo ?_)))
 obtain⟨h0,hh0⟩: ∃h0,h0=u8 (32*4+(l.length:Int)):=⟨_,rfl⟩
 rw[←hh0]
 refine zi [(10,_),(11,_)] (fun nn E H=> ∃(k:Nat) (V:Value) (o:List UInt8),(k≤l.length)∧(V.oneCell'=true)∧(o=h0::(l.take k).flatten)∧nn=l.length-k∧E= [(3,.val V),(12,.val (.int .i64 (k:Int)))]∧H= [.row V 5 1 o.length (a0a o)]) _ (⟨0,_,[h0],by omega,‹_›,rfl,rfl,rfl,rfl⟩) ?_
 rintro nn E H ⟨k,V,o,hk,hV,ho,rfl,rfl,rfl⟩
 dsimp only[cA,cN]
 have hol:o.length=1+(l.take k).flatten.length:=by rw[ho,cL];omega
 have hkl:=e0z l k
 refine zD (zr ?_)
 refine zT (zJ (zn (zD ?_)))
 refine yt (fun hlt=> ?_) (fun hlt=> ?_)<;>(try simp only[vT]at hlt)
 ·have hs:=g0v l (k:=k) (by omega)
  have hkl2:=e0z l (k+1)
  rw[hs,cH]at hkl2
  refine y6 (zn (zD (xo (zD (zr ?_)))))
  refine ye ?_
  refine vO (O.loadR rfl rfl (by exact g0M (k:=k) (by omega) (by omega))) ?_
  refine zc (zJ (zn (zr ?_)))
  refine zb ?_
  refine zb ?_
  refine zF 0 ?_
  intro V2 hV2
  refine zc (zJ (xE (zn (zr ?_))))
  refine zB ?_
  refine zb (zJ ?_)
  rw[show a0a o++a0a (vat l k)=a0a (o++vat l k)from(a0U _ _).symm,show o.length+(vat l k).length=(o++vat l k).length from List.length_append.symm]
  refine zu _ _ _ (by omega) (⟨k+1,_,o++vat l k,by omega,‹_›,by rw[ho,hs];rfl,rfl,rfl,rfl⟩)
 obtain rfl:k=l.length:=by omega
 rw[List.take_length]at ho
 subst ho
 refine wj ?_
 refine x8 ?_
 refine wd ?_
 refine xD (zn (zD (zr ?_)))
 refine zb ?_
 refine zc (zJ (zn (xj ?_)))
 refine AQ.g ?_
 refine yf 0 [2] ?_
 refine AQ.u ?_
 try dsimp only[List.map,List.eraseIdx,cA,cN]
 refine yM
theorem k0O (kid:List UInt8)(piv:Int):Sp Tryz.prog 60 [roB kid,.val (.int .i64 piv)] [] (Is (u0x (i0F kid piv))):=by
 refine yX Tryz.func60 _ Tryz.ntmps60 (fun w0 R0=> ?_)
 refine zD (zr ?_)
 refine zc ?_
 refine zc (zJ (zn (zD (zD (zr ?_)))))
 refine zb ?_
 refine zX ?_
 refine yZ (zJ (zn ?_))
 refine yt (fun h1=> ?_) (fun h1=> ?_)<;>(try simp only[vT]at h1)
 ·rw[s0v (by omega)]
  refine zD (zr ?_)
  refine zc ?_
  refine zc (zJ (zn (xj (xx ?_))))
  refine wa yV yv (⟨rfl,rfl⟩)
 have hk:kid.length≤7:=by omega
 refine y6 (zn (zD (zD (zr ?_))))
 refine zb ?_
 refine zT ?_
 refine zb ?_
 refine yC ?_
 refine yB 14 ?_
 refine zI (zJ (zn ?_))
 refine yt (fun h2=> ?_) (fun h2=> ?_)<;>(try simp only[vT]at h2)
 ·rw[s0u (by omega) (by omega)]
  refine zD (zr ?_)
  refine zc ?_
  refine zc (zJ (zn (xj (xx ?_))))
  refine wa yV yv (⟨rfl,rfl⟩)
 rw[s0t (by omega) (by omega)]
 have hpl:=c0Y piv
 have hxl:=f0L hk hpl
 have hsl: ∀b:List UInt8,b.length<24→(c0H b).length=1+b.length:=fun b h=>by rw[c0H,b0o h,cH];rfl
 have ha1:Sp Tryz.prog 109 [.ro false 1 [roB (f0q 10)]] [] (Is (roB (g0U [f0q 10]))):=j0X [f0q 10] (by simp) (by decide)
 have ha5:Sp Tryz.prog 109 [.ro false 5 [roB (f0q 1),roB (g0U [f0q 10]),roB (c0H kid),roB (c0H (b0T piv)),roB (c0H [])]] [] (Is (roB (j0P kid (b0T piv)))):=j0X [f0q 1,g0U [f0q 10],c0H kid,c0H (b0T piv),c0H []] (by simp) (by
  have h1:=hsl kid (by omega)
  have h2:=hsl (b0T piv) (by omega)
  have h3:=hsl [] (by simp)
  have h4:(f0q 1).length=1:=rfl
  have h5:(g0U [f0q 10]).length=2:=rfl
  simp only[List.flatten_cons,List.flatten_nil,cP,cH,cE]at h3⊢;omega)
 have ha3:Sp Tryz.prog 109 [.ro false 3 [roB (l0e i0E),roB (c0H []),roB (c0H (j0P kid (b0T piv)))]] [] (Is (roB (u0p kid (b0T piv)))):=j0X [l0e i0E,c0H [],c0H (j0P kid (b0T piv))] (by simp) (by
  have h1:=hsl _ hxl
  have h3:=hsl [] (by simp)
  have h4:(l0e i0E).length=9:=rfl
  simp only[List.flatten_cons,List.flatten_nil,cP,cH,cE]at h3⊢;omega)
 generalize j0P kid (b0T piv)=x at*
 generalize u0p kid (b0T piv)=y at*
 generalize g0U [f0q 10]=z at*
 refine y6 (zn (zD (zr ?_)))
 refine vO (xM rfl Tryz.func110 rfl rfl rfl (n0y 10 (by omega))) ?_
 refine zR ?_
 intro B1
 refine AO.g ?_
 refine yi 0 18 ?_
 refine wm 18 ?_
 refine AO.u ?_
 dsimp only[List.eraseIdx]
 refine vO (xM rfl Tryz.func109 rfl rfl rfl ha1) ?_
 refine zc (zJ (zn (zD (zr ?_))))
 refine vO (xM rfl Tryz.func110 rfl rfl rfl (n0y 1 (by omega))) ?_
 refine zb ?_
 refine zb ?_
 refine vO (xM rfl Tryz.func111 rfl rfl rfl (f0P _ (by omega))) ?_
 refine zb ?_
 refine vO (xM rfl Tryz.func112 rfl rfl rfl (m0d _)) ?_
 refine vO (xM rfl Tryz.func111 rfl rfl rfl (f0P _ (by omega))) ?_
 refine vO (O.callC rfl Tryz.func111 rfl rfl rfl (f0P [] (by simp)) (by(repeat(first|exact CoeL.nil|refine CoeL.cons Coe.nil ?_));done)) ?_
 refine xy ?_
 intro B2
 refine AO.g ?_
 refine yi 0 28 ?_
 refine wm 28 ?_
 refine AO.u ?_
 dsimp only[List.eraseIdx]
 refine vO (xM rfl Tryz.func109 rfl rfl rfl ha5) ?_
 refine zc (zJ (zn (zD (zr ?_))))
 refine vO (xM rfl Tryz.func113 rfl rfl rfl s0D) ?_
 refine vO (O.callC rfl Tryz.func111 rfl rfl rfl (f0P [] (by simp)) (by(repeat(first|exact CoeL.nil|refine CoeL.cons Coe.nil ?_));done)) ?_
 refine zb ?_
 refine vO (xM rfl Tryz.func111 rfl rfl rfl (f0P _ (by omega))) ?_
 refine xy ?_
 intro B3
 refine AO.g ?_
 refine yi 0 34 ?_
 refine wm 34 ?_
 refine AO.u ?_
 dsimp only[List.eraseIdx]
 refine vO (xM rfl Tryz.func109 rfl rfl rfl ha3) ?_
 refine zc ?_
 refine zc (zJ (zn (xj ?_)))
 refine xS
theorem w0m (a:UInt8):Go.bits .xor .u8 (a.toNat:Int) 54=((a^^^54).toNat:Int):=d0j (p:=fun a=>Go.bits .xor .u8 (a.toNat:Int) 54=((a^^^54).toNat:Int)) (by decide +kernel) a
theorem w0l (a:UInt8):Go.bits .xor .u8 (a.toNat:Int) 92=((a^^^92).toNat:Int):=d0j (p:=fun a=>Go.bits .xor .u8 (a.toNat:Int) 92=((a^^^92).toNat:Int)) (by decide +kernel) a
theorem f0s (l:List (List UInt8))(k:Nat):(l.take k).flatten.length≤l.flatten.length:=by
 conv=>rhs;rw[←List.take_append_drop k l]
 rw[List.flatten_append,cH];omega
theorem g0X (l:List (List UInt8)){k:Nat}(h:k<l.length):(l.take (k+1)).flatten=(l.take k).flatten++vat l k:=by
 rw[a0i [] h,List.flatten_append];simp[vat]
theorem r0i (l:List (List UInt8))(hl:l.length≤1000000)(hf:l.flatten.length≤1000000):Sp Tryz.prog 150 [u0v l] [] (Is (roB l.flatten)):=by
 refine yX Tryz.func150 _ Tryz.ntmps150 (fun w0 R0=> ?_)
 refine zD (zr ?_)
 refine zc (zJ (zn (zD (zr ?_))))
 refine zc (zJ (zn (zD (zD (zr ?_)))))
 refine zb ?_
 refine zX ?_
 refine zb (zJ (zn (xo ?_)))
 refine AW.g ?_
 refine G.nilRow 5 1 ?_
 refine AW.u ?_
 refine zi [(6,_),(7,_)] (fun nn E H=> ∃(k:Nat) (V:Value),(k≤l.length)∧(V.oneCell'=true)∧nn=l.length-k∧E= [(3,.val V),(8,.val (.int .i64 (k:Int)))]∧H= [.row V 5 1 (l.take k).flatten.length (a0a (l.take k).flatten)]) _ (⟨0,_,by omega,rfl,rfl,rfl,rfl⟩) ?_
 rintro nn E H ⟨k,V,hk,hV,rfl,rfl,rfl⟩
 dsimp only[cA,cN]
 have hkl:=f0s l k
 refine zD (zr ?_)
 refine zT (zJ (zn (zD ?_)))
 refine yt (fun hlt=> ?_) (fun hlt=> ?_)<;>(try simp only[vT]at hlt)
 ·have hs:=g0X l (k:=k) (by omega)
  have hkl2:=f0s l (k+1)
  rw[hs,cH]at hkl2
  refine y6 (zn (zD (xo (zD (zr ?_)))))
  refine ye ?_
  refine vO (O.loadR rfl rfl (by exact g0M (k:=k) (by omega) (by omega))) ?_
  refine zc (zJ (zn (zr ?_)))
  refine zb ?_
  refine zb ?_
  refine zF 0 ?_
  intro V1 hV1
  refine zc (zJ (xE (zn (zr ?_))))
  refine zB ?_
  refine zb (zJ ?_)
  rw[show a0a (l.take k).flatten++a0a (vat l k)=a0a (l.take (k+1)).flatten by rw[hs,a0U],show(l.take k).flatten.length+(vat l k).length=(l.take (k+1)).flatten.length by rw[hs,cH]]
  refine zu _ _ _ (by omega) (⟨k+1,_,by omega,‹_›,rfl,rfl,rfl⟩)
 obtain rfl:k=l.length:=by omega
 rw[List.take_length]
 refine wj ?_
 refine x8 ?_
 refine wd ?_
 refine xD (zn (zD (zr ?_)))
 refine zb ?_
 refine zc (zJ (zn (xj ?_)))
 refine AQ.g ?_
 refine yf 0 [2] ?_
 refine AQ.u ?_
 try dsimp only[List.map,List.eraseIdx,cA,cN]
 refine yM
theorem m0Q {k:List UInt8}(h:k.length≤64):t0R k=k++List.replicate (64-k.length) 0:=by
 unfold t0R
 rw[if_neg (by omega)]
theorem h0u (l:List UInt8)(c:UInt8){k:Nat}(h:k<l.length):(l.take (k+1)).map (· ^^^c)=(l.take k).map (· ^^^c)++[bt l k^^^c]:=by
 rw[k0b h,List.map_append];rfl
theorem p0i (key b:List UInt8)(hk:key.length≤64)(hb:b.length≤900000):Sp Tryz.prog 149 [roB key,roB b] [] (Is (roB (j0T key b))):=by
 have hkb:=m0Q hk
 refine yX Tryz.func149 _ Tryz.ntmps149 (fun w0 R0=> ?_)
 refine zD (zr ?_)
 refine zc (zJ (zn (zD (zr ?_))))
 refine zb ?_
 refine yH ?_
 intro V1 hV1
 refine zc (zJ (zn (zD (zD (zr ?_)))))
 refine zb ?_
 refine wu ?_
 refine vO (O.gtr rfl rfl rfl (by exact e0G (by omega))) (zJ (zn ?_))
 refine AW.condF rfl (y6 (zn (zD (xo ?_))))
 refine zi [(1,_)] (fun nn E H=> ∃(q:Nat) (V:Value) (l:List UInt8),(q≤64-key.length)∧(V.oneCell'=true)∧(l=key++List.replicate q 0)∧nn=64-key.length-q∧E= [(5,.val V)]∧H= [.row V 5 1 l.length (a0a l)]) _ (⟨0,_,key,by omega,‹_›,by simp,rfl,rfl,rfl⟩) ?_
 rintro nn E H ⟨q,V,l,hq,hV,hl,rfl,rfl,rfl⟩
 dsimp only[cA,cN]
 have hll:l.length=key.length+q:=by rw[hl];simp
 refine zD (zD (zr ?_))
 refine zb ?_
 refine wu ?_
 refine zT (zJ (zn ?_))
 refine yt (fun h1=> ?_) (fun h1=> ?_)<;>(try simp only[vT]at h1)
 ·have hgu:a0a (l++[0])=a0a l++[.val (.int .u8 0)]:=b0A l 0
  have hgl:(l++[0]).length=l.length+1:=by simp
  refine y6 (zn (xo (zr ?_)))
  refine zb ?_
  refine zR ?_
  intro B2
  refine AO.g ?_
  refine yi 0 21 ?_
  refine wm 21 ?_
  refine AO.u ?_
  dsimp only[List.eraseIdx]
  refine yD 0 ?_
  intro V3 hV3
  refine zc (zJ (xE ?_))
  rw[show a0a l++_=_ from hgu.symm,←hgl]
  refine zu _ _ _ (by omega) (⟨q+1,_,l++[0],by omega,‹_›,by rw[hl,List.replicate_succ',List.append_assoc],rfl,rfl,rfl⟩)
 obtain⟨K,hK⟩: ∃K,K=t0R key:=⟨_,rfl⟩
 have hlK:l=K:=by rw[hK,hkb,hl,show 64-key.length=q by omega]
 have hKl:K.length=64:=by rw[hK];exact r0j key
 have hmac0:j0T key b=sha (K.map (· ^^^92)++sha (K.map (· ^^^54)++b)):=by rw[hK];rfl
 rw[hmac0]
 subst hlK
 refine AW.g ?_
 refine yf 0 [5] ?_
 refine AW.u ?_
 try dsimp only[List.map,List.eraseIdx,cA,cN]
 refine wj ?_
 refine x8 ?_
 refine wd ?_
 refine xD (zn (zD (zr ?_)))
 refine zc ?_
 refine zc (zJ (zn (zD (zD (zr ?_)))))
 refine zb ?_
 refine zX ?_
 refine zb (zJ (zn (xo ?_)))
 refine AW.g ?_
 refine G.nilRow 5 1 ?_
 refine AW.u ?_
 refine AW.g ?_
 refine G.nilRow 5 1 ?_
 refine AW.u ?_
 refine zi [(1,_),(23,_),(24,_)] (fun nn E H=> ∃(i:Nat) (V V':Value),(i≤64)∧(V.oneCell'=true)∧(V'.oneCell'=true)∧nn=64-i∧E= [(6,.val V),(7,.val V'),(25,.val (.int .i64 (i:Int)))]∧H= [.row V 5 1 i (a0a ((l.take i).map (· ^^^54))),.row V' 5 1 i (a0a ((l.take i).map (· ^^^92)))]) _ (⟨0,.slice none 0 0,.slice none 0 0,by omega,rfl,rfl,rfl,rfl,rfl⟩) ?_
 rintro nn E H ⟨i,V,V',hi,hV,hV',rfl,rfl,rfl⟩
 dsimp only[cA,cN]
 refine zD (zr ?_)
 refine zT (zJ (zn (zD ?_)))
 refine yt (fun h2=> ?_) (fun h2=> ?_)<;>(try simp only[vT]at h2)
 ·have hil:i<l.length:=by omega
  have h5:=h0u l 54 hil
  have h9:=h0u l 92 hil
  have g5:a0a ((l.take i).map (· ^^^54))++[.val (.int .u8 (((bt l i)^^^54).toNat:Int))]=a0a ((l.take (i+1)).map (· ^^^54)):=by rw[h5];exact(b0A _ _).symm
  have g9:a0a ((l.take i).map (· ^^^92))++[.val (.int .u8 (((bt l i)^^^92).toNat:Int))]=a0a ((l.take (i+1)).map (· ^^^92)):=by rw[h9];exact(b0A _ _).symm
  refine y6 (zn (zD (xo (zD (zr ?_)))))
  refine ye ?_
  refine vO vy ?_
  refine zc (zJ (zn (zr ?_)))
  refine zb ?_
  refine zb ?_
  refine vO (O.xor_ rfl rfl rfl (w0m _)) ?_
  refine zR ?_
  intro B4
  refine AO.g ?_
  refine yi 0 32 ?_
  refine wm 32 ?_
  refine AO.u ?_
  dsimp only[List.eraseIdx]
  refine yD 0 ?_
  intro V5 hV5
  refine zb ?_
  refine zb ?_
  refine vO (O.xor_ rfl rfl rfl (w0l _)) ?_
  refine zR ?_
  intro B6
  refine AO.g ?_
  refine yi 0 37 ?_
  refine wm 37 ?_
  refine AO.u ?_
  dsimp only[List.eraseIdx]
  refine yD 1 ?_
  intro V7 hV7
  refine zc ?_
  refine zc (zJ (xE (zn (zr ?_))))
  refine zB ?_
  refine zb (zJ ?_)
  rw[show a0a ((l.take i).map (· ^^^54))++_=_ from g5,show a0a ((l.take i).map (· ^^^92))++_=_ from g9]
  refine zu _ _ _ (by omega) (⟨i+1,V5,V7,by omega,hV5,hV7,rfl,rfl,rfl⟩)
 obtain rfl:i=64:=by omega
 rw[List.take_of_length_le (by omega)]
 have l5:(l.map (· ^^^54)).length=64:=by rw[List.length_map];omega
 have l9:(l.map (· ^^^92)).length=64:=by rw[List.length_map];omega
 generalize l.map (· ^^^54)=X at*
 generalize l.map (· ^^^92)=Y at*
 have hshl:(sha (X++b)).length=32:=h0O _
 have e43:AV.ro false (64+b.length) (a0a X++a0a b)=roB (X++b):=by rw[←l5,←List.length_append,←a0U];rfl
 have e45:AV.ro false (64+(sha (X++b)).length) (a0a Y++a0a (sha (X++b)))=roB (Y++sha (X++b)):=by rw[←l9,←List.length_append,←a0U];rfl
 refine wj ?_
 refine x8 ?_
 refine wd ?_
 refine xD (zn (zD (zr ?_)))
 refine zb ?_
 refine zb ?_
 refine zb ?_
 refine zF 0 ?_
 intro V8 hV8
 refine AO.g ?_
 refine yQ 0 [43] ?_
 refine AO.u ?_
 dsimp only[List.map,List.eraseIdx,cA,cN]
 rw[e43]
 refine vO (xM rfl Tryz.func176 rfl rfl rfl (r0U _ (by(simp only[cH,List.length_map,h0O];omega)))) ?_
 refine zy 0 ?_
 intro V9 hV9
 refine AO.g ?_
 refine yQ 0 [45] ?_
 refine AO.u ?_
 dsimp only[List.map,List.eraseIdx,cA,cN]
 rw[e45]
 refine vO (xM rfl Tryz.func176 rfl rfl rfl (r0U _ (by(simp only[cH,List.length_map,h0O];omega)))) ?_
 refine zc (zJ (zn (xj ?_)))
 refine yM
theorem m0W (key b:List UInt8)(hk:key.length≤64)(hb:b.length≤900000):Sp Tryz.prog 104 [roB key,roB b] [] (Is (roB (j0T key b))):=by
 refine yX Tryz.func104 _ Tryz.ntmps104 (fun w0 R0=> ?_)
 refine zD (zr ?_)
 refine zc (zJ (zn (zD (zr ?_))))
 refine zb ?_
 refine zb ?_
 refine vO (xM rfl Tryz.func149 rfl rfl rfl (p0i _ _ (by omega) (by omega))) ?_
 refine zc (zJ (zn (xj ?_)))
 refine yM
theorem g0z (prk info:List UInt8)(n:Nat)(hp:prk.length≤64)(hi:info.length≤100000)(hn:n≤8160):Sp Tryz.prog 105 [roB prk,roB info,.val (.int .i64 (n:Int))] [] (Is (.tup [roB (e0c prk info n),.val (.int .i64 0)])):=by
 refine yX Tryz.func105 _ Tryz.ntmps105 (fun w0 R0=> ?_)
 refine zD (zr ?_)
 refine zc ?_
 refine zc (zJ (zn (zD (zD (zr ?_)))))
 refine zb ?_
 refine vO (O.lss rfl rfl rfl (by exact e0G (by omega))) ?_
 refine zb ?_
 refine zb ?_
 refine vO (O.gtr rfl rfl rfl (by exact e0G (by omega))) ?_
 refine vO (O.pickF rfl rfl rfl) (zJ (zn ?_))
 refine AW.condF rfl (y6 (zn (zD (zr ?_))))
 refine zc ?_
 refine zc (zJ (zn (zD (zD (zr ?_)))))
 refine zc (zJ (zn (xo ?_)))
 refine AW.g ?_
 refine G.nilRo 9 rfl ?_
 refine AW.u ?_
 try dsimp only[List.map,List.eraseIdx,cA,cN]
 refine AW.g ?_
 refine G.nilRow 5 1 ?_
 refine AW.u ?_
 refine zi [(0,_),(1,_),(2,_)] (fun nn E H=> ∃(k:Nat) (V:Value),(k≤(n+31)/32)∧(V.oneCell'=true)∧nn=(n+31)/32-k∧E= [(8,.val V),(9,roB (k0G prk info k)),(10,.val (.int .i64 ((k:Int)+1)))]∧H= [.row V 5 1 (c0L prk info k).length (a0a (c0L prk info k))]) _ (⟨0,_,by omega,rfl,rfl,rfl,rfl⟩) ?_
 rintro nn E H ⟨k,V,hk,hV,rfl,rfl,rfl⟩
 dsimp only[cA,cN]
 have hal:=f0f prk info k
 have htl:(k0G prk info k).length≤32:=by
  cases k with
  |zero=>simp[k0G]
  |succ k=>rw[i0s];omega
 refine zD (zD (zr ?_))
 refine zb ?_
 refine wu ?_
 refine zb ?_
 refine zT (zJ (zn ?_))
 refine yt (fun h1=> ?_) (fun h1=> ?_)<;>(try simp only[vT]at h1)
 ·have hjn:Sp Tryz.prog 150 [.ro false 3 [roB (k0G prk info k),roB info,.ro false 1 [.val (.int .u8 ((u8 ((k:Int)+1)).toNat:Int))]]] [] (Is (roB (k0G prk info k++info++[UInt8.ofNat (k+1)]))):=by
   have h:=r0i [k0G prk info k,info,[u8 ((k:Int)+1)]] (by simp) (by simp;omega)
   rw[show [k0G prk info k,info,[u8 ((k:Int)+1)]].flatten=k0G prk info k++info++[UInt8.ofNat (k+1)] by rw[l0G];simp]at h
   exact h
  have hhm:Sp Tryz.prog 149 [roB prk,roB (k0G prk info k++info++[UInt8.ofNat (k+1)])] [] (Is (roB (k0G prk info (k+1)))):=p0i _ _ hp (by simp;omega)
  have hst:=g0A prk info k
  have hsl:(c0L prk info (k+1)).length=(c0L prk info k).length+(k0G prk info (k+1)).length:=by rw[hst,cH]
  have htl2:=i0s prk info k
  refine y6 (zn (zD (xo (zD (zr ?_)))))
  refine zb ?_
  refine zb ?_
  refine zb ?_
  refine zb ?_
  refine xg ?_
  refine zR ?_
  intro B1
  refine AO.g ?_
  refine yi 0 28 ?_
  refine wm 28 ?_
  refine AO.u ?_
  dsimp only[List.eraseIdx]
  refine xy ?_
  intro B2
  refine AO.g ?_
  refine yi 0 29 ?_
  refine wm 29 ?_
  refine AO.u ?_
  dsimp only[List.eraseIdx]
  refine vO (xM rfl Tryz.func150 rfl rfl rfl hjn) ?_
  refine vO (xM rfl Tryz.func149 rfl rfl rfl hhm) ?_
  refine zc (zJ (zn (zr ?_)))
  refine zb ?_
  refine zb ?_
  refine zy 0 ?_
  intro V3 hV3
  refine zc (zJ (xE (zn (zr ?_))))
  refine zb ?_
  refine zB ?_
  refine zc (zJ ?_)
  rw[show a0a (c0L prk info k)++_=a0a (c0L prk info (k+1)) by rw[hst,a0U],←hsl]
  refine zu _ _ _ (by omega) (⟨k+1,_,by omega,‹_›,rfl,rfl,rfl⟩)
 have hke:k=(n+31)/32:=by omega
 have hex:e0c prk info n=(c0L prk info k).take n:=by rw[hke];rfl
 rw[hex]
 generalize c0L prk info k=o at*
 refine AW.g ?_
 refine yf 0 [8] ?_
 refine AW.u ?_
 try dsimp only[List.map,List.eraseIdx,cA,cN]
 refine wj ?_
 refine x8 ?_
 refine wd ?_
 refine xD (zn (zD (zr ?_)))
 refine zb ?_
 refine zb ?_
 refine vO (O.sliceToB (k:=n) rfl rfl rfl (by rfl) (by omega)) ?_
 refine zc ?_
 refine zc (zJ (zn (xj ?_)))
 refine xS
structure Inp where
 sec:List UInt8
 salt:List UInt8
 has:Bool
 ctx:List UInt8
 snd:List UInt8
 rcp:List UInt8
abbrev cI (x:Inp):List AV:= [roB x.sec,roB x.salt,.val (.bool x.has),roB x.ctx,roB x.snd,roB x.rcp]
abbrev v0W (x:Inp):AV:= .agg (cI x)
structure Cx where
 inp:Inp
 sk:List UInt8
 rk:List UInt8
 com:List UInt8
abbrev cX (c:Cx):List AV:= [roB c.inp.sec,roB c.inp.salt,.val (.bool c.inp.has),roB c.inp.ctx,roB c.inp.snd,roB c.inp.rcp,roB c.sk,roB c.rk,roB c.com]
abbrev j0N (c:Cx):AV:= .agg (cX c)
def Inp.none:Inp:=⟨[],[],false,[],[],[]⟩
def Cx.none:Cx:=⟨Inp.none,[],[],[]⟩
abbrev f0n (x:Inp):Prop:=(1≤x.sec.length∧x.sec.length≤64∧x.salt.length≤64∧x.ctx.length≤16∧(x.has=true∨x.ctx.length=0))∧x.snd.length≤7∧x.rcp.length≤7∧ ¬x.snd=x.rcp
abbrev f0u (c:Cx):Prop:=f0n c.inp∧c.sk.length=16∧c.rk.length=16∧c.com.length=13
theorem v0y {x:Inp}(h: ¬f0n x):false=decide (f0n x):=(decide_eq_false h).symm
theorem v0A {x:Inp}(h:1≤x.sec.length∧x.sec.length≤64∧x.salt.length≤64∧x.ctx.length≤16∧(x.has=true∨x.ctx.length=0)):
  (decide ((x.snd.length:Int)≤7)&&decide ((x.rcp.length:Int)≤7)&&(f0Y x.snd).toList !=(f0Y x.rcp).toList)=decide (f0n x):=by
 rw[Bool.eq_iff_iff,Bool.and_eq_true,Bool.and_eq_true,cQ,cQ,cQ,bne_iff_ne,ne_eq,a0X,a0X]
 constructor
 ·rintro⟨⟨h1,h2⟩,h3⟩
  exact⟨h,by omega,by omega,h3⟩
 rintro⟨-,h1,h2,h3⟩
 exact⟨⟨by omega,by omega⟩,h3⟩
theorem v0z {x:Inp}:(decide (1≤(x.sec.length:Int))&&decide ((x.sec.length:Int)≤64)&&decide ((x.salt.length:Int)≤64)&&decide ((x.ctx.length:Int)≤16)&&(x.has||((x.ctx.length:Int)==0))&&decide ((x.snd.length:Int)≤7)&&decide ((x.rcp.length:Int)≤7)&& !(x.snd==x.rcp))=decide (f0n x):=by
 rw[Bool.eq_iff_iff]
 simp only[Bool.and_eq_true,Bool.or_eq_true,cQ,beq_iff_eq,Bool.not_eq_true',beq_eq_false_iff_ne,ne_eq]
 constructor
 ·rintro⟨⟨⟨⟨⟨⟨⟨h1,h2⟩,h3⟩,h4⟩,h5⟩,h6⟩,h7⟩,h8⟩
  exact⟨⟨by omega,by omega,by omega,by omega,h5.imp id (fun h=>by omega)⟩,by omega,by omega,h8⟩
 rintro⟨⟨h1,h2,h3,h4,h5⟩,h6,h7,h8⟩
 exact⟨⟨⟨⟨⟨⟨⟨by omega,by omega⟩,by omega⟩,by omega⟩,h5.imp id (fun h=>by omega)⟩,by omega⟩,by omega⟩,h8⟩
theorem n0a (x:Inp):Sp Tryz.prog 76 [v0W x] [] (Is (.val (.bool (decide (f0n x))))):=by
 refine yX Tryz.func76 _ Tryz.ntmps76 (fun w0 R0=> ?_)
 refine zD (zr ?_)
 refine yo ?_
 intro B1
 refine zc (zJ (zn (zD (zD (zr ?_)))))
 refine zq ?_
 refine zv ?_
 refine zX ?_
 refine zT ?_
 refine zb ?_
 refine zN ?_
 refine zw 8 ?_
 refine yb 9 ?_
 refine yB 10 ?_
 refine zI ?_
 refine zb ?_
 refine zN ?_
 refine zw 14 ?_
 refine yb 15 ?_
 refine yB 16 ?_
 refine zI ?_
 refine zb ?_
 refine zN ?_
 refine zw 20 ?_
 refine yb 21 ?_
 refine yB 22 ?_
 refine zI ?_
 refine zb ?_
 refine zN ?_
 refine zw 26 ?_
 refine xc 27 ?_
 refine wQ 28 ?_
 refine zN ?_
 refine zw 30 ?_
 refine yb 31 ?_
 refine yB 32 ?_
 refine va 29 ?_
 refine zI (zJ (zn ?_))
 refine yt (fun h35=> ?_) (fun h35=> ?_)<;>(try simp only[vT]at h35)
 ·have e:=v0y (x:=x) (by
   rintro⟨⟨h1,h2,h3,h4,h5⟩, -⟩
   rcases h35 with(((h|h)|h)|h)|⟨h,h'⟩
   ·omega
   ·omega
   ·omega
   ·omega
   rcases h5 with h5|h5
   ·rw[h]at h5;cases h5
   omega)
  refine zD (zr ?_)
  refine zc (zJ (zn (xj (xx ?_))))
  refine vz rfl rfl nS (⟨congrArg (fun z=>AV.val (.bool z)) e,rfl⟩)
 have e:=v0A (x:=x) (by
  obtain⟨⟨⟨⟨h1,h2⟩,h3⟩,h4⟩,h5⟩:=h35
  refine⟨by omega,by omega,by omega,by omega,?_⟩
  cases hh:x.has with
  |true=>exact .inl rfl
  |false=>have:=h5 hh;exact .inr (by omega))
 refine y6 (zn (zD (zr ?_)))
 refine zq ?_
 refine zv ?_
 refine zX ?_
 refine vO wI ?_
 refine zb ?_
 refine zN ?_
 refine zw 41 ?_
 refine yb 42 ?_
 refine xJ 43 ?_
 refine zW ?_
 refine zb ?_
 refine zN ?_
 refine zw 47 ?_
 refine AO.opG rfl rfl rfl (fun hp=>ve 48 rfl (by exact hp) (O.convS rfl rfl (by rfl))) ?_
 refine zN ?_
 refine zw 50 ?_
 refine AO.opG rfl rfl rfl (fun hp=>ve 51 rfl (by exact hp) (O.convS rfl rfl (by rfl))) ?_
 refine AO.opG rfl rfl rfl (fun hp=>ve 49 rfl (by exact hp) (ve 52 rfl (by exact hp) (O.neqS rfl rfl rfl (by rfl)))) ?_
 refine zW ?_
 refine zc (zJ (zn (xj ?_)))
 refine vz rfl rfl nS (⟨congrArg (fun z=>AV.val (.bool z)) e,rfl⟩)
theorem h0h (x:Inp):Sp Tryz.prog 77 [v0W x] [] (Is (.val (.bool (decide (f0n x))))):=by
 have e:=v0z (x:=x)
 refine yX Tryz.func77 _ Tryz.ntmps77 (fun w0 R0=> ?_)
 refine zD (zr ?_)
 refine yo ?_
 intro B1
 refine zc (zJ (zn (zD (zr ?_))))
 refine zq ?_
 refine zv ?_
 refine zX ?_
 refine wX ?_
 refine zb ?_
 refine zN ?_
 refine zw 8 ?_
 refine yb 9 ?_
 refine xJ 10 ?_
 refine zW ?_
 refine zb ?_
 refine zN ?_
 refine zw 14 ?_
 refine yb 15 ?_
 refine xJ 16 ?_
 refine zW ?_
 refine zb ?_
 refine zN ?_
 refine zw 20 ?_
 refine yb 21 ?_
 refine xJ 22 ?_
 refine zW ?_
 refine zb ?_
 refine zN ?_
 refine zw 26 ?_
 refine wQ 27 ?_
 refine zN ?_
 refine zw 29 ?_
 refine yb 30 ?_
 refine xe 31 ?_
 refine AO.opG rfl rfl rfl (fun hp=>ve 28 rfl (by exact hp) (O.pickOr rfl rfl rfl rfl (fun h=>by simp_all))) ?_
 refine zW ?_
 refine zb ?_
 refine zN ?_
 refine zw 36 ?_
 refine yb 37 ?_
 refine xJ 38 ?_
 refine zW ?_
 refine zb ?_
 refine zN ?_
 refine zw 42 ?_
 refine yb 43 ?_
 refine xJ 44 ?_
 refine zW ?_
 refine zb ?_
 refine zN ?_
 refine zw 48 ?_
 refine zN ?_
 refine zw 50 ?_
 refine AO.opG rfl rfl rfl (fun hp=>ve 49 rfl (by exact hp) (ve 51 rfl (by exact hp) (xM rfl Tryz.func31 rfl rfl rfl (c0b _ _)))) ?_
 refine xc 52 ?_
 refine zW ?_
 refine zc (zJ (zn (xj ?_)))
 refine vz rfl rfl nS (⟨congrArg (fun z=>AV.val (.bool z)) e,rfl⟩)
theorem x0E {c:Cx}:(decide (f0n c.inp)&&((c.sk.length:Int)==16)&&((c.rk.length:Int)==16)&&((c.com.length:Int)==13))=decide (f0u c):=by
 rw[Bool.eq_iff_iff]
 simp only[Bool.and_eq_true,cQ,beq_iff_eq]
 constructor
 ·rintro⟨⟨⟨h1,h2⟩,h3⟩,h4⟩
  exact⟨h1,by omega,by omega,by omega⟩
 rintro⟨h1,h2,h3,h4⟩
 exact⟨⟨⟨h1,by omega⟩,by omega⟩,by omega⟩
theorem j0e (c:Cx):Sp Tryz.prog 27 [j0N c] [] (Is (.val (.bool (decide (f0u c))))):=by
 have e:=x0E (c:=c)
 refine yX Tryz.func27 _ Tryz.ntmps27 (fun w0 R0=> ?_)
 refine zD (zr ?_)
 refine yo ?_
 intro B1
 refine zc (zJ (zn (zD (zr ?_))))
 refine zq ?_
 refine zC ?_
 refine vO (xM rfl Tryz.func76 rfl rfl rfl (n0a c.inp)) ?_
 refine zb ?_
 refine zN ?_
 refine zw 7 ?_
 refine yb 8 ?_
 refine xe 9 ?_
 refine zW ?_
 refine zb ?_
 refine zN ?_
 refine zw 13 ?_
 refine yb 14 ?_
 refine xe 15 ?_
 refine zW ?_
 refine zb ?_
 refine zN ?_
 refine zw 19 ?_
 refine yb 20 ?_
 refine xe 21 ?_
 refine zW ?_
 refine zc (zJ (zn (xj ?_)))
 refine vz rfl rfl nS (⟨congrArg (fun z=>AV.val (.bool z)) e,rfl⟩)
theorem h0k (c:Cx):Sp Tryz.prog 28 [j0N c] [] (Is (.val (.bool (decide (f0u c))))):=by
 have e:=x0E (c:=c)
 refine yX Tryz.func28 _ Tryz.ntmps28 (fun w0 R0=> ?_)
 refine zD (zr ?_)
 refine yo ?_
 intro B1
 refine zc (zJ (zn (zD (zr ?_))))
 refine zq ?_
 refine zC ?_
 refine vO (xM rfl Tryz.func77 rfl rfl rfl (h0h c.inp)) ?_
 refine zb ?_
 refine zN ?_
 refine zw 7 ?_
 refine yb 8 ?_
 refine xe 9 ?_
 refine zW ?_
 refine zb ?_
 refine zN ?_
 refine zw 13 ?_
 refine yb 14 ?_
 refine xe 15 ?_
 refine zW ?_
 refine zb ?_
 refine zN ?_
 refine zw 19 ?_
 refine yb 20 ?_
 refine xe 21 ?_
 refine zW ?_
 refine zc (zJ (zn (xj ?_)))
 refine vz rfl rfl nS (⟨congrArg (fun z=>AV.val (.bool z)) e,rfl⟩)
def u0T (c:Cx):Cx:=⟨⟨c.inp.sec,c.inp.salt,c.inp.has,c.inp.ctx,c.inp.rcp,c.inp.snd⟩,c.rk,c.sk,c.com⟩
abbrev SmX (c:Cx):Prop:=(c.inp.sec.length≤1000000∧c.inp.salt.length≤1000000∧c.inp.ctx.length≤1000000∧c.inp.snd.length≤1000000∧c.inp.rcp.length≤1000000)∧c.sk.length≤1000000∧c.rk.length≤1000000∧c.com.length≤1000000
theorem s0N (c:Cx)(h:SmX c):Sp Tryz.prog 36 [j0N c] [] (Is (j0N (u0T c))):=by
 obtain⟨⟨h1,h2,h3,h4,h5⟩,h6,h7,h8⟩:=h
 refine yX Tryz.func36 _ Tryz.ntmps36 (fun w0 R0=> ?_)
 refine zD (zr ?_)
 refine yo ?_
 intro B1
 refine zd ?_
 intro B2
 refine zJ (zn (zD ?_))
 refine yA 34 ?_
 simp only[cT,cZ,cD,cO]
 refine yw ?_
 refine yw ?_
 refine zM ?_
 refine vP (xM rfl Tryz.func69 rfl rfl rfl (a0p _ (by omega))) ?_
 refine yw ?_
 refine yw ?_
 refine zM ?_
 refine vP (xM rfl Tryz.func69 rfl rfl rfl (a0p _ (by omega))) ?_
 refine yw ?_
 refine yw ?_
 refine zM ?_
 refine yw ?_
 refine yw ?_
 refine zM ?_
 refine vP (xM rfl Tryz.func69 rfl rfl rfl (a0p _ (by omega))) ?_
 refine yw ?_
 refine yw ?_
 refine zM ?_
 refine vP (xM rfl Tryz.func69 rfl rfl rfl (a0p _ (by omega))) ?_
 refine yw ?_
 refine yw ?_
 refine zM ?_
 refine vP (xM rfl Tryz.func69 rfl rfl rfl (a0p _ (by omega))) ?_
 refine x0 ?_
 refine yw ?_
 refine zM ?_
 refine vP (xM rfl Tryz.func69 rfl rfl rfl (a0p _ (by omega))) ?_
 refine yw ?_
 refine zM ?_
 refine vP (xM rfl Tryz.func69 rfl rfl rfl (a0p _ (by omega))) ?_
 refine yw ?_
 refine zM ?_
 refine vP (xM rfl Tryz.func69 rfl rfl rfl (a0p _ (by omega))) ?_
 refine x0 ?_
 refine vb ?_
 simp only[a0h,cN,cA,cP]
 refine za 0 (zJ (zn (xj ?_)))
 refine AQ.retCell rfl rfl (by repeat(exact List.Mem.head _)) (by rfl) rfl nS (⟨rfl,rfl⟩)
def u0B (x:Inp):Cx:=⟨x,e0c (j0T x.salt x.sec) (f0b x.snd x.ctx x.has p0c 16) 16,e0c (j0T x.salt x.sec) (f0b x.rcp x.ctx x.has p0c 16) 16,e0c (j0T x.salt x.sec) (f0b [] x.ctx x.has ivT 13) 13⟩
theorem u0a {x:Inp}(h:f0n x):f0u (u0B x):=⟨h,f0e,f0e,f0e⟩
abbrev x0L (r:Cx×Int):AV:= .tup [j0N r.1,.val (.int .i64 r.2)]
def u0C (x:Inp):Cx×Int:=if f0n x then(u0B x,0)else(Cx.none,1)
theorem j0C (x:Inp):Sp Tryz.prog 54 [v0W x] [] (Is (x0L (u0C x))):=by
 refine yX Tryz.func54 _ Tryz.ntmps54 (fun w0 R0=> ?_)
 refine zD (zr ?_)
 refine yo ?_
 intro B1
 refine zd ?_
 intro B2
 refine zc (zJ (zn (zD (zD (zr ?_)))))
 refine zA ?_
 refine vO (xM rfl Tryz.func77 rfl rfl rfl (h0h x)) ?_
 refine xu (zJ (zn ?_))
 refine yt (fun h=> ?_) (fun h=> ?_)<;>(try simp only[vT]at h)
 ·rw[show u0C x=(Cx.none,1)from if_neg h]
  refine zD (zr ?_)
  refine zP ?_
  refine za 0 ?_
  refine zc (zJ (zn (xj (xx ?_))))
  refine wa yd zl (⟨rfl,rfl⟩)
 rw[show u0C x=(u0B x,0)from if_pos h]
 obtain⟨⟨h1,h2,h3,h4,h5⟩,h6,h7,h8⟩:=h
 have hi1:=h0V x.snd x.ctx x.has _ p0c 16 (by omega) (by omega) (by decide) (by omega) l0o
 have hi2:=h0V x.rcp x.ctx x.has _ p0c 16 (by omega) (by omega) (by decide) (by omega) l0o
 have hi3:=h0V [] x.ctx x.has _ ivT 13 (by simp) (by omega) (by decide) (by omega) q0r
 have hl:=r0m x.salt x.sec
 have g1:=f0I (id:=x.snd) (ctx:=x.ctx) (has:=x.has) (kind:=p0c) (n:=16) (by omega) (by omega) (by decide) (by omega)
 have g2:=f0I (id:=x.rcp) (ctx:=x.ctx) (has:=x.has) (kind:=p0c) (n:=16) (by omega) (by omega) (by decide) (by omega)
 have g3:=f0I (id:= []) (ctx:=x.ctx) (has:=x.has) (kind:=ivT) (n:=13) (by simp) (by omega) (by decide) (by omega)
 have he1:=g0z (j0T x.salt x.sec) (f0b x.snd x.ctx x.has p0c 16) 16 (by omega) (by omega) (by omega)
 have he2:=g0z (j0T x.salt x.sec) (f0b x.rcp x.ctx x.has p0c 16) 16 (by omega) (by omega) (by omega)
 have he3:=g0z (j0T x.salt x.sec) (f0b [] x.ctx x.has ivT 13) 13 (by omega) (by omega) (by omega)
 refine y6 (zn (zD (zr ?_)))
 refine zq ?_
 refine zp ?_
 refine zq ?_
 refine zp ?_
 refine vO (xM rfl Tryz.func104 rfl rfl rfl (m0W _ _ (by omega) (by omega))) ?_
 refine zc (zJ (zn (zD ?_)))
 refine yA 20 ?_
 simp only[cT,cZ,cD,cO]
 refine yw ?_
 refine zM ?_
 refine vP (xM rfl Tryz.func69 rfl rfl rfl (a0p _ (by omega))) ?_
 refine yw ?_
 refine zM ?_
 refine vP (xM rfl Tryz.func69 rfl rfl rfl (a0p _ (by omega))) ?_
 refine yw ?_
 refine zM ?_
 refine yw ?_
 refine zM ?_
 refine vP (xM rfl Tryz.func69 rfl rfl rfl (a0p _ (by omega))) ?_
 refine yw ?_
 refine zM ?_
 refine vP (xM rfl Tryz.func69 rfl rfl rfl (a0p _ (by omega))) ?_
 refine yw ?_
 refine zM ?_
 refine vP (xM rfl Tryz.func69 rfl rfl rfl (a0p _ (by omega))) ?_
 refine x0 ?_
 refine x0 ?_
 refine yS ?_
 refine vb ?_
 simp only[a0h,cN,cA,cP]
 rintro _ _ ⟨B3,rfl,rfl⟩
 simp only[cA,cN]
 refine za 0 (zJ (zn (zD (zr ?_))))
 refine zb ?_
 refine zq ?_
 refine zp ?_
 refine zq ?_
 refine zp ?_
 refine zq ?_
 refine zp ?_
 refine vO (xM rfl Tryz.func106 rfl rfl rfl hi1) ?_
 refine vO (xM rfl Tryz.func105 rfl rfl rfl he1) ?_
 refine zb ?_
 refine zK ?_
 refine zK ?_
 refine zq ?_
 refine za 0 (zJ (zn (zD (zr ?_))))
 refine zb ?_
 refine zq ?_
 refine zp ?_
 refine zq ?_
 refine zp ?_
 refine zq ?_
 refine zp ?_
 refine vO (xM rfl Tryz.func106 rfl rfl rfl hi2) ?_
 refine vO (xM rfl Tryz.func105 rfl rfl rfl he2) ?_
 refine zb ?_
 refine zK ?_
 refine zK ?_
 refine zq ?_
 refine za 0 (zJ (zn (zD (zr ?_))))
 refine zb ?_
 refine zq ?_
 refine zp ?_
 refine zq ?_
 refine zp ?_
 refine vO (O.callC rfl Tryz.func106 rfl rfl rfl hi3 (by(repeat(first|exact CoeL.nil|refine CoeL.cons Coe.rfl ?_|refine CoeL.cons Coe.nil ?_));done)) ?_
 refine vO (xM rfl Tryz.func105 rfl rfl rfl he3) ?_
 refine zb ?_
 refine zK ?_
 refine zK ?_
 refine zq ?_
 refine za 0 (zJ (zn (zD (zr ?_))))
 refine zC ?_
 refine za 1 ?_
 refine zc (zJ (zn (xj ?_)))
 refine AQ.retCT rfl rfl rfl mM (by(dsimp only[List.set,cA,cN,List.take,List.drop];rfl)) rfl nS (⟨rfl,rfl⟩)
end Go.Proofs.YtojomcdjcpmnkaaGreat.By
namespace Go.Proofs.YtojomcdjcpmnkaaGreat.By
open Go.RowKit L A Dk
attribute [local irreducible] AW AQ AO
def beVal (l:List UInt8):Nat:=l.foldl (fun n x=>n*256+x.toNat) 0
theorem d0O (l:List UInt8)(x:UInt8):beVal (l++[x])=beVal l*256+x.toNat:=by simp[beVal,List.foldl_append]
theorem r0E: ∀(k:Nat) (l:List UInt8),l.length=k→beVal l<256^k:=by
 intro k
 induction k with
 |zero=>intro l h;rw[List.eq_nil_of_length_eq_zero h];decide
 |succ k ih=>
  intro l h
  have hne:l≠ []:=by intro e;subst e;simp at h
  obtain⟨r,x,rfl⟩: ∃r x,l=r++[x]:=⟨l.dropLast,l.getLast hne,(List.dropLast_concat_getLast hne).symm⟩
  have h1:=ih r (by simp at h;exact h)
  have h2:=x.toNat_lt
  rw[d0O,Nat.pow_succ];omega
def d0J (b:List UInt8):Int×Int:=if b.length=0 then(0,2)else if 5<b.length then(0,8)else if 1<b.length∧bt b 0=0 then(0,4)else((beVal b:Int),0)
theorem o0T (b:List UInt8):Sp Tryz.prog 129 [roB b] [] (Is (.tup [.val (.int .i64 (d0J b).1),.val (.int .i64 (d0J b).2)])):=by
 refine yX Tryz.func129 _ Tryz.ntmps129 (fun w0 R0=> ?_)
 refine zD (zr ?_)
 refine zc ?_
 refine zc (zJ (zn (zD (xo (zD (zr ?_))))))
 refine zb ?_
 refine zX ?_
 refine z8 ?_
 refine zc (zJ (zn ?_))
 refine yt (fun h=> ?_) (fun h=> ?_)<;>(try simp only[vT]at h)
 ·have e:d0J b=(0,2):=by unfold d0J;rw[if_pos (by omega)]
  rw[e]
  refine zD (zr ?_)
  refine zc ?_
  refine zc (zJ (zn (xj ?_)))
  refine ww (xx ?_)
  refine xS
 refine zD (zr ?_)
 refine zb ?_
 refine zX ?_
 refine yZ ?_
 refine zc (zJ (zn ?_))
 refine yt (fun h2=> ?_) (fun h2=> ?_)<;>(try simp only[vT]at h2)
 ·have e:d0J b=(0,8):=by unfold d0J;rw[if_neg (by omega),if_pos (by omega)]
  rw[e]
  refine zD (zr ?_)
  refine zc ?_
  refine zc (zJ (zn (xj ?_)))
  refine ww (xx ?_)
  refine xS
 refine zD (zr ?_)
 refine zb ?_
 refine zX ?_
 refine yZ ?_
 refine zb ?_
 refine yC ?_
 refine AO.opG rfl rfl rfl (fun hp=>ve 20 rfl (by exact hp) ya) ?_
 refine AO.opG rfl rfl rfl (fun hp=>ve 21 rfl (by exact hp) (O.loadR rfl rfl (by exact b0l (k:=0) (by omega) rfl))) ?_
 refine xe 22 ?_
 refine zW ?_
 refine zc (zJ (zn ?_))
 refine yt (fun h3=> ?_) (fun h3=> ?_)<;>(try simp only[vT]at h3)
 ·have e:d0J b=(0,4):=by unfold d0J;rw[if_neg (by omega),if_neg (by omega),if_pos ⟨by omega,u8_eq.1 (by simpa using h3.2)⟩]
  rw[e]
  refine zD (zr ?_)
  refine zc ?_
  refine zc (zJ (zn (xj ?_)))
  refine ww (xx ?_)
  refine xS
 have e:d0J b=((beVal b:Int),0):=by
  unfold d0J
  rw[if_neg (by omega),if_neg (by omega),if_neg]
  rintro⟨h4,h5⟩
  exact h3 (by omega) (by rw[h5];rfl)
 rw[e]
 refine y6 (xE (zn (zD (zr ?_))))
 refine zc (zJ (zn (zD (zD (zr ?_)))))
 refine zb ?_
 refine zX ?_
 refine zb (zJ (zn (xo ?_)))
 refine wT [(25,_),(26,_)] (fun nn E H=> ∃(k:Nat),(k≤b.length)∧(beVal (b.take k)<256^k)∧nn=b.length-k∧E= [(4,.val (.int .i64 (beVal (b.take k):Int))),(27,.val (.int .i64 (k:Int)))]∧H= []) _ (⟨0,by omega,by simp[beVal],rfl,rfl,rfl⟩) ?_
 rintro nn E H ⟨k,h1,hv,rfl,rfl,rfl⟩
 dsimp only[cA,cN]
 refine zD (zr ?_)
 refine zT (zJ (zn (zD ?_)))
 refine yt (fun hlt=> ?_) (fun hlt=> ?_)<;>(try simp only[vT]at hlt)
 ·have hlt':k<b.length:=by omega
  have hx:=b0B (bt b k)
  have hv2:beVal (b.take k)<4294967296:=Nat.lt_of_lt_of_le hv (Nat.le_trans (Nat.pow_le_pow_right (by decide) (show k≤4 by omega)) (by decide))
  have hs:beVal (b.take (k+1))=beVal (b.take k)*256+(bt b k).toNat:=by rw[k0b hlt',d0O]
  refine y6 (zn (zD (xo (zD (zr ?_)))))
  refine ye ?_
  refine vO vy ?_
  refine zc (zJ (zn (zr ?_)))
  refine zb ?_
  refine vO (O.shlK 8 256 rfl rfl rfl rfl (by rfl) (by exact e0J (by omega))) ?_
  refine zb ?_
  refine xU ?_
  refine vO (O.or_ rfl rfl rfl (o0L 8 (m:=256) (by decide) (by omega) (by omega))) ?_
  refine zc (zJ (xE (zn (zr ?_))))
  refine zB ?_
  refine zb (zJ ?_)
  refine wH _ _ _ (by omega) (⟨k+1,by omega,by rw[hs,Nat.pow_succ];omega,rfl,by rw[hs,Int.natCast_add,Int.natCast_mul],rfl⟩)
 obtain rfl:k=b.length:=by omega
 rw[List.take_length]
 refine wj ?_
 refine x8 ?_
 refine wd ?_
 refine xD (zn (zD (zr ?_)))
 refine zb ?_
 refine zc ?_
 refine zc (zJ (zn (xj ?_)))
 refine xS
theorem m0t (b:List UInt8):Sp Tryz.prog 130 [roB b] [] (Is (.tup [.val (.int .i64 (d0J b).1),.val (.int .i64 (d0J b).2)])):=by
 refine yX Tryz.func130 _ Tryz.ntmps130 (fun w0 R0=> ?_)
 refine zD (zr ?_)
 refine zc ?_
 refine zc (zJ (zn (zD (xo (zD (zr ?_))))))
 refine zb ?_
 refine zX ?_
 refine z8 ?_
 refine zc (zJ (zn ?_))
 refine yt (fun h=> ?_) (fun h=> ?_)<;>(try simp only[vT]at h)
 ·have e:d0J b=(0,2):=by unfold d0J;rw[if_pos (by omega)]
  rw[e]
  refine zD (zr ?_)
  refine zc ?_
  refine zc (zJ (zn (xj ?_)))
  refine ww (xx ?_)
  refine xS
 refine zD (zr ?_)
 refine zb ?_
 refine zX ?_
 refine yZ ?_
 refine zc (zJ (zn ?_))
 refine yt (fun h2=> ?_) (fun h2=> ?_)<;>(try simp only[vT]at h2)
 ·have e:d0J b=(0,8):=by unfold d0J;rw[if_neg (by omega),if_pos (by omega)]
  rw[e]
  refine zD (zr ?_)
  refine zc ?_
  refine zc (zJ (zn (xj ?_)))
  refine ww (xx ?_)
  refine xS
 refine zD (zr ?_)
 refine zb ?_
 refine zX ?_
 refine yZ ?_
 refine zb ?_
 refine yC ?_
 refine AO.opG rfl rfl rfl (fun hp=>ve 20 rfl (by exact hp) ya) ?_
 refine AO.opG rfl rfl rfl (fun hp=>ve 21 rfl (by exact hp) (O.loadR rfl rfl (by exact b0l (k:=0) (by omega) rfl))) ?_
 refine xe 22 ?_
 refine zW ?_
 refine zc (zJ (zn ?_))
 refine yt (fun h3=> ?_) (fun h3=> ?_)<;>(try simp only[vT]at h3)
 ·have e:d0J b=(0,4):=by unfold d0J;rw[if_neg (by omega),if_neg (by omega),if_pos ⟨by omega,u8_eq.1 (by simpa using h3.2)⟩]
  rw[e]
  refine zD (zr ?_)
  refine zc ?_
  refine zc (zJ (zn (xj ?_)))
  refine ww (xx ?_)
  refine xS
 have e:d0J b=((beVal b:Int),0):=by
  unfold d0J
  rw[if_neg (by omega),if_neg (by omega),if_neg]
  rintro⟨h4,h5⟩
  exact h3 (by omega) (by rw[h5];rfl)
 rw[e]
 refine y6 (xE (zn (zD (zr ?_))))
 refine zc (zJ (zn (zD (zD (zr ?_)))))
 refine zb ?_
 refine zX ?_
 refine zb (zJ (zn (xo ?_)))
 refine wT [(25,_),(26,_)] (fun nn E H=> ∃(k:Nat),(k≤b.length)∧(beVal (b.take k)<256^k)∧nn=b.length-k∧E= [(4,.val (.int .i64 (beVal (b.take k):Int))),(27,.val (.int .i64 (k:Int)))]∧H= []) _ (⟨0,by omega,by simp[beVal],rfl,rfl,rfl⟩) ?_
 rintro nn E H ⟨k,h1,hv,rfl,rfl,rfl⟩
 dsimp only[cA,cN]
 refine zD (zr ?_)
 refine zT (zJ (zn (zD ?_)))
 refine yt (fun hlt=> ?_) (fun hlt=> ?_)<;>(try simp only[vT]at hlt)
 ·have hlt':k<b.length:=by omega
  have hx:=b0B (bt b k)
  have hv2:beVal (b.take k)<4294967296:=Nat.lt_of_lt_of_le hv (Nat.le_trans (Nat.pow_le_pow_right (by decide) (show k≤4 by omega)) (by decide))
  have hs:beVal (b.take (k+1))=beVal (b.take k)*256+(bt b k).toNat:=by rw[k0b hlt',d0O]
  refine y6 (zn (zD (xo (zD (zr ?_)))))
  refine ye ?_
  refine vO vy ?_
  refine zc (zJ (zn (zr ?_)))
  refine zb ?_
  refine wF ?_
  refine zb ?_
  refine xU ?_
  refine zB ?_
  refine zc (zJ (xE (zn (zr ?_))))
  refine zB ?_
  refine zb (zJ ?_)
  refine wH _ _ _ (by omega) (⟨k+1,by omega,by rw[hs,Nat.pow_succ];omega,rfl,by rw[hs,Int.natCast_add,Int.natCast_mul],rfl⟩)
 obtain rfl:k=b.length:=by omega
 rw[List.take_length]
 refine wj ?_
 refine x8 ?_
 refine wd ?_
 refine xD (zn (zD (zr ?_)))
 refine zb ?_
 refine zc ?_
 refine zc (zJ (zn (xj ?_)))
 refine xS
structure Cmp where
 piv:Int
 hasKid:Bool
 kid:List UInt8
 hasCtx:Bool
 ctx:List UInt8
 group:Bool
 deriving DecidableEq
abbrev q0e (c:Cmp):AV:= .agg [.val (.int .i64 c.piv),.val (.bool c.hasKid),roB c.kid,.val (.bool c.hasCtx),roB c.ctx,.val (.bool c.group)]
def j0U (c:Cmp):Prop:=(-1≤c.piv∧c.piv≤1099511627775∧(c.kid.length:Int)≤7∧(c.ctx.length:Int)≤16)∧(c.hasKid=true∨(c.kid.length:Int)=0)∧(c.hasCtx=true∨(c.ctx.length:Int)=0)
instance (c:Cmp):Decidable (j0U c):=by unfold j0U;infer_instance
theorem p0y (c:Cmp):Sp Tryz.prog 160 [q0e c] [] (Is (.val (.bool (decide (j0U c))))):=by
 obtain⟨piv,hk,kid,hc,ctx,g⟩:=c
 refine yX Tryz.func160 _ Tryz.ntmps160 (fun w0 R0=> ?_)
 refine zD (zr ?_)
 refine yo ?_
 intro B
 refine zc (zJ (zn (zD (zD (zr ?_)))))
 refine zq ?_
 refine zv ?_
 refine zT ?_
 refine zb ?_
 refine zN ?_
 refine zw 7 ?_
 refine yB 8 ?_
 refine zI ?_
 refine zb ?_
 refine zN ?_
 refine zw 12 ?_
 refine yb 13 ?_
 refine yB 14 ?_
 refine zI ?_
 refine zb ?_
 refine zN ?_
 refine zw 18 ?_
 refine yb 19 ?_
 refine yB 20 ?_
 refine zI (zJ (zn ?_))
 refine yt (fun h=> ?_) (fun h=> ?_)<;>(try simp only[vT]at h)
 ·have e:decide (j0U ⟨piv,hk,kid,hc,ctx,g⟩)=false:=decide_eq_false fun hv=>by
   obtain⟨⟨a1,a2,a3,a4⟩, -⟩:=hv
   simp only at*
   omega
  refine zD (zr ?_)
  refine zc (zJ (zn (xj (xx ?_))))
  refine vz rfl rfl nS (⟨congrArg (fun z=>AV.val (.bool z)) e.symm,rfl⟩)
 refine y6 (zn (zD (zr ?_)))
 refine zq ?_
 refine zv ?_
 refine zb ?_
 refine zN ?_
 refine zw 26 ?_
 refine yb 27 ?_
 refine xe 28 ?_
 refine zI ?_
 refine zb ?_
 refine zN ?_
 refine zw 32 ?_
 refine wQ 33 ?_
 refine zN ?_
 refine zw 35 ?_
 refine yb 36 ?_
 refine xe 37 ?_
 refine AO.opG rfl rfl rfl (fun hp=>ve 34 rfl (by exact hp) (O.pickOr rfl rfl rfl rfl (fun h=>by simp_all))) ?_
 refine zW ?_
 refine zc (zJ (zn (xj ?_)))
 have e:decide (j0U ⟨piv,hk,kid,hc,ctx,g⟩)=((hk||((kid.length:Int)==0))&&(hc||((ctx.length:Int)==0))):=by
  refine g0H ?_
  simp only[j0U,cQ,Bool.and_eq_true,Bool.or_eq_true,beq_iff_eq]
  constructor
  ·exact fun h=>h.2
  exact fun h2=>⟨by omega,h2⟩
 refine vz rfl rfl nS (⟨congrArg (fun z=>AV.val (.bool z)) e.symm,rfl⟩)
theorem m0y (c:Cmp):Sp Tryz.prog 73 [q0e c] [] (Is (.val (.bool (decide (j0U c))))):=by
 obtain⟨piv,hk,kid,hc,ctx,g⟩:=c
 refine yX Tryz.func73 _ Tryz.ntmps73 (fun w0 R0=> ?_)
 refine zD (zr ?_)
 refine yo ?_
 intro B
 refine zc (zJ (zn (zD (zr ?_))))
 refine zq ?_
 refine zv ?_
 refine wX ?_
 refine zb ?_
 refine zN ?_
 refine zw 7 ?_
 refine xJ 8 ?_
 refine zW ?_
 refine zb ?_
 refine zN ?_
 refine zw 12 ?_
 refine yb 13 ?_
 refine xJ 14 ?_
 refine zW ?_
 refine zb ?_
 refine zN ?_
 refine zw 18 ?_
 refine wQ 19 ?_
 refine zN ?_
 refine zw 21 ?_
 refine yb 22 ?_
 refine xe 23 ?_
 refine AO.opG rfl rfl rfl (fun hp=>ve 20 rfl (by exact hp) (O.pickOr rfl rfl rfl rfl (fun h=>by simp_all))) ?_
 refine zW ?_
 refine zb ?_
 refine zN ?_
 refine zw 28 ?_
 refine yb 29 ?_
 refine xJ 30 ?_
 refine zW ?_
 refine zb ?_
 refine zN ?_
 refine zw 34 ?_
 refine wQ 35 ?_
 refine zN ?_
 refine zw 37 ?_
 refine yb 38 ?_
 refine xe 39 ?_
 refine AO.opG rfl rfl rfl (fun hp=>ve 36 rfl (by exact hp) (O.pickOr rfl rfl rfl rfl (fun h=>by simp_all))) ?_
 refine zW ?_
 refine zc (zJ (zn (xj ?_)))
 have e:decide (j0U ⟨piv,hk,kid,hc,ctx,g⟩)=(decide (-1≤piv)&&decide (piv≤1099511627775)&&decide ((kid.length:Int)≤7)&&(hk||((kid.length:Int)==0))&&decide ((ctx.length:Int)≤16)&&(hc||((ctx.length:Int)==0))):=by
  refine g0H ?_
  simp only[j0U,cQ,Bool.and_eq_true,Bool.or_eq_true,beq_iff_eq]
  constructor
  ·exact fun h=>⟨⟨⟨⟨⟨h.1.1,h.1.2.1⟩,h.1.2.2.1⟩,h.2.1⟩,h.1.2.2.2⟩,h.2.2⟩
  exact fun h=>⟨⟨h.1.1.1.1.1,h.1.1.1.1.2,h.1.1.1.2,h.1.2⟩,h.1.1.2,h.2⟩
 refine vz rfl rfl nS (⟨congrArg (fun z=>AV.val (.bool z)) e.symm,rfl⟩)
def flg (c:Cmp):Int:=(b0T c.piv).length+(if c.hasKid then 8 else 0)+(if c.hasCtx then 16 else 0)+(if c.group then 32 else 0)
def s0k (c:Cmp):List UInt8:=u8 (flg c)::b0T c.piv++(if c.hasCtx then u8 c.ctx.length::c.ctx else [])++c.kid
def d0w (c:Cmp):List UInt8×Int:=if ¬j0U c then([],1)else if flg c=0 then([],0)else(s0k c,0)
theorem s0i {c:Cmp}(h:j0U c):0≤flg c∧flg c≤61:=by
 have:=c0Y c.piv
 unfold flg
 (repeat' split)<;>omega
theorem n0f (c:Cmp):Sp Tryz.prog 117 [q0e c] [] (Is (.tup [roB (d0w c).1,.val (.int .i64 (d0w c).2)])):=by
 have hfl:=s0i (c:=c)
 have hpl:=c0Y c.piv
 obtain⟨piv,hk,kid,hc,ctx,g⟩:=c
 refine yX Tryz.func117 _ Tryz.ntmps117 (fun w0 R0=> ?_)
 refine zD (zr ?_)
 refine yo ?_
 intro B
 refine zc ?_
 refine zc (zJ (zn (zD (zD (zr ?_)))))
 refine zC ?_
 refine vO (xM rfl Tryz.func160 rfl rfl rfl (p0y ⟨_,_,_,_,_,_⟩)) ?_
 refine xu (zJ (zn ?_))
 refine yt (fun h=> ?_) (fun h=> ?_)<;>(try simp only[vT]at h)
 ·have e:d0w ⟨piv,hk,kid,hc,ctx,g⟩=([],1):=by unfold d0w;rw[if_pos h]
  rw[e]
  refine zD (zr ?_)
  refine zc ?_
  refine zc (zJ (zn (xj (xx ?_))))
  refine AQ.g ?_
  refine G.nilRo 2 rfl ?_
  refine AQ.u ?_
  try dsimp only[List.map,List.eraseIdx,cA,cN]
  refine xS
 have hfl:=hfl h
 have e:d0w ⟨piv,hk,kid,hc,ctx,g⟩=if flg ⟨piv,hk,kid,hc,ctx,g⟩=0 then([],0)else(s0k ⟨piv,hk,kid,hc,ctx,g⟩,0):=by unfold d0w;rw[if_neg (by simpa using h)]
 rw[e]
 obtain⟨⟨a1,a2,a3,a4⟩, -⟩:=h
 simp only at*
 obtain⟨n,hn⟩: ∃n:Int,n=(b0T piv).length:=⟨_,rfl⟩
 have hu:=a0I (x:=((b0T piv).length:Int)) (by omega)
 rw[←hn]at hu
 refine y6 (zn (zD (zr ?_)))
 refine zq ?_
 refine zv ?_
 refine vO (xM rfl Tryz.func112 rfl rfl rfl (m0d _)) ?_
 refine zc (zJ (zn (zD (zr ?_))))
 refine zb ?_
 refine zX ?_
 refine xg ?_
 refine zc (zJ (zn (zD (zD (zr ?_)))))
 refine zq ?_
 refine zv (zJ (zn ?_))
 simp only[hu,←hn]
 refine xR True [(1,_),(4,_)] [(5,.val (.int .u8 (bif hk then n+8 else n)))] [.blk B 52 6 [.val (.int .i64 piv),.val (.bool hk),roB kid,.val (.bool hc),roB ctx,.val (.bool g)]] (fun hb=> ?_) (fun hb=> ?_) (fun hj=> ?_)<;>try(try simp only[vT]at hb)
 ·subst hb
  refine zr ?_
  refine zb ?_
  refine vO (O.or_ rfl rfl rfl (t0x 3 (m:=8) (by decide) (by omega) (by omega))) ?_
  refine zc (zJ ?_)
  refine yl
 ·subst hb
  refine y6 ?_
  refine yl
 dsimp only[cA,cN]
 refine zn ?_
 obtain⟨n1,hn1⟩: ∃n1:Int,n1=bif hk then n+8 else n:=⟨_,rfl⟩
 have b1:0≤n1∧n1≤13:=by rw[hn1];cases hk<;>simp<;>omega
 rw[←hn1]
 refine zD (zD (zr ?_))
 refine zq ?_
 refine zv (zJ (zn ?_))
 refine xR True [(1,_),(4,_)] [(5,.val (.int .u8 (bif hc then n1+16 else n1)))] [.blk B 52 6 [.val (.int .i64 piv),.val (.bool hk),roB kid,.val (.bool hc),roB ctx,.val (.bool g)]] (fun hb=> ?_) (fun hb=> ?_) (fun hj=> ?_)<;>try(try simp only[vT]at hb)
 ·subst hb
  refine zr ?_
  refine zb ?_
  refine vO (O.or_ rfl rfl rfl (t0x 4 (m:=16) (by decide) (by omega) (by omega))) ?_
  refine zc (zJ ?_)
  refine yl
 ·subst hb
  refine y6 ?_
  refine yl
 dsimp only[cA,cN]
 refine zn ?_
 obtain⟨n2,hn2⟩: ∃n2:Int,n2=bif hc then n1+16 else n1:=⟨_,rfl⟩
 have b2:0≤n2∧n2≤29:=by rw[hn2];cases hc<;>simp<;>omega
 rw[←hn2]
 refine zD (zD (zr ?_))
 refine zq ?_
 refine zv (zJ (zn ?_))
 refine xR True [(1,_),(4,_)] [(5,.val (.int .u8 (bif g then n2+32 else n2)))] [.blk B 52 6 [.val (.int .i64 piv),.val (.bool hk),roB kid,.val (.bool hc),roB ctx,.val (.bool g)]] (fun hb=> ?_) (fun hb=> ?_) (fun hj=> ?_)<;>try(try simp only[vT]at hb)
 ·subst hb
  refine zr ?_
  refine zb ?_
  refine vO (O.or_ rfl rfl rfl (t0x 5 (m:=32) (by decide) (by omega) (by omega))) ?_
  refine zc (zJ ?_)
  refine yl
 ·subst hb
  refine y6 ?_
  refine yl
 dsimp only[cA,cN]
 refine zn ?_
 have hf:(bif g then n2+32 else n2)=flg ⟨piv,hk,kid,hc,ctx,g⟩:=by
  rw[hn2,hn1,hn];unfold flg;cases hk<;>cases hc<;>cases g<;>simp
 rw[hf]
 obtain⟨f,hfd⟩: ∃f,f=flg ⟨piv,hk,kid,hc,ctx,g⟩:=⟨_,rfl⟩
 rw[←hfd]at hfl⊢
 refine zD (zD (zr ?_))
 refine zb ?_
 refine z8 (zJ (zn ?_))
 refine yt (fun hz=> ?_) (fun hz=> ?_)<;>(try simp only[vT]at hz)
 ·rw[if_pos hz]
  refine zD (zr ?_)
  refine zc ?_
  refine zc (zJ (zn (xj (xx ?_))))
  refine AQ.g ?_
  refine G.nilRo 2 rfl ?_
  refine AQ.u ?_
  try dsimp only[List.map,List.eraseIdx,cA,cN]
  refine xS
 have hfu:=a0I (x:=f) (by omega)
 rw[if_neg hz]
 refine y6 (zn (zD (zr ?_)))
 refine zb ?_
 refine zR ?_
 intro B
 refine AO.g ?_
 refine xT B 1 1 0 rfl rfl rfl (Nat.le_refl _) ?_
 refine AO.u ?_
 dsimp only[List.set]
 refine zb ?_
 refine zF 0 ?_
 intro V hV
 refine zc (zJ (zn (zD (zD (zr ?_)))))
 refine zq ?_
 refine zp (zJ (zn ?_))
 have hfu2:(f:Int)=((u8 f).toNat:Int):=hfu.symm
 have e2:s0k ⟨piv,hk,kid,hc,ctx,g⟩=u8 f::b0T piv++(if hc then u8 ctx.length::ctx else [])++kid:=by unfold s0k;rw[←hfd]
 rw[e2]
 refine yt (fun hb=> ?_) (fun hb=> ?_)
 ·subst hb
  have hu2:=a0I (x:=(ctx.length:Int)) (by omega)
  refine AW.regionM [(0,false),(1,false),(2,false),(3,false),(4,false),(5,false),(7,false),(8,false),(6,true),(9,true),(10,true)] (by kernel_rfl) (by kernel_rfl) (by exact(by exact c0S 6 0 rfl rfl a0g)) ?_
  dsimp only[List.eraseIdx]
  refine yW ?_
  refine y1 ?_
  refine wi ?_
  refine vQ rfl (x3 rfl rfl) ?_
  refine vQ rfl (O.conv rfl rfl d0m) ?_
  refine xk ?_
  refine y1 ?_
  refine wi ?_
  refine xN _ (fun w0 R0=> ?_)
  refine zy 0 ?_
  intro V hV
  refine AM.ok ?_
  dsimp only[a0q]
  refine xN _ (fun w0 R0=> ?_)
  refine zF 0 ?_
  intro V hV
  refine AM.ok ?_
  dsimp only[a0q]
  refine xN _ (fun w0 R0=> ?_)
  refine zc ?_
  refine AM.ok ?_
  dsimp only[a0q]
  refine vd ?_
  dsimp only[cA,cN]
  refine zn (zD (zr ?_))
  refine zb ?_
  refine zq ?_
  refine zp ?_
  refine yP 0 ?_
  intro V hV
  refine zc ?_
  refine zc (zJ (zn (xj ?_)))
  refine AQ.g ?_
  refine yf 0 [2] ?_
  refine AQ.u ?_
  try dsimp only[List.map,List.eraseIdx,cA,cN]
  refine AQ.ret2 rfl rfl rfl nS (⟨congrArg (fun z=>AV.tup [z,.val (.int .i64 0)]) (b0u (by simp;omega) (by simp[a0a,hfu,hu2])),rfl⟩)
 subst hb
 refine y6 (zn (zD (zr ?_)))
 refine zb ?_
 refine zq ?_
 refine zp ?_
 refine yP 0 ?_
 intro V hV
 refine zc ?_
 refine zc (zJ (zn (xj ?_)))
 refine AQ.g ?_
 refine yf 0 [2] ?_
 refine AQ.u ?_
 try dsimp only[List.map,List.eraseIdx,cA,cN]
 refine AQ.ret2 rfl rfl rfl nS (⟨congrArg (fun z=>AV.tup [z,.val (.int .i64 0)]) (b0u (by simp;omega) (by simp[a0a,hfu])),rfl⟩)
theorem j0L: ∀(n:Nat) (out:List UInt8),out≠ []→n0l n out≠ []:=by
 intro n
 induction n using Nat.strongRecOn with
 |_ n ih=>
  intro out h
  by_cases h0:n=0
  ·subst h0;rw[b0b];exact h
  rw[a0Y h0];exact ih _ (Nat.div_lt_self (by omega) (by omega)) _ (by simp)
theorem q0M {n:Int}(h:n≤1099511627775):(b0T n).length=0↔n<0:=by
 unfold b0T
 split
 ·simp;omega
 have:=j0L (n.toNat/256) [u8 n] (by simp)
 constructor
 ·intro h;exact absurd (List.eq_nil_of_length_eq_zero h) this
 intro h;omega
theorem k0p (c:Cmp):Sp Tryz.prog 23 [q0e c] [] (Is (.tup [roB (d0w c).1,.val (.int .i64 (d0w c).2)])):=by
 have hfl:=s0i (c:=c)
 have hpl:=c0Y c.piv
 obtain⟨piv,hk,kid,hc,ctx,g⟩:=c
 refine yX Tryz.func23 _ Tryz.ntmps23 (fun w0 R0=> ?_)
 refine zD (zr ?_)
 refine yo ?_
 intro B
 refine zc ?_
 refine zc (zJ (zn (zD (zD (zr ?_)))))
 refine zC ?_
 refine vO (xM rfl Tryz.func73 rfl rfl rfl (m0y ⟨_,_,_,_,_,_⟩)) ?_
 refine xu (zJ (zn ?_))
 refine yt (fun h=> ?_) (fun h=> ?_)<;>(try simp only[vT]at h)
 ·have e:d0w ⟨piv,hk,kid,hc,ctx,g⟩=([],1):=by unfold d0w;rw[if_pos h]
  rw[e]
  refine zD (zr ?_)
  refine zc ?_
  refine zc (zJ (zn (xj (xx ?_))))
  refine AQ.g ?_
  refine G.nilRo 2 rfl ?_
  refine AQ.u ?_
  try dsimp only[List.map,List.eraseIdx,cA,cN]
  refine xS
 have hfl:=hfl h
 have e:d0w ⟨piv,hk,kid,hc,ctx,g⟩=if flg ⟨piv,hk,kid,hc,ctx,g⟩=0 then([],0)else(s0k ⟨piv,hk,kid,hc,ctx,g⟩,0):=by unfold d0w;rw[if_neg (by simpa using h)]
 rw[e]
 obtain⟨⟨a1,a2,a3,a4⟩, -⟩:=h
 simp only at*
 have hnil:=q0M a2
 have hnil':b0T piv= []↔piv<0:=by rw[←List.length_eq_zero_iff];exact hnil
 have hz0:flg ⟨piv,hk,kid,hc,ctx,g⟩=0↔(piv= -1∧hk=false∧hc=false∧g=false):=by
  unfold flg
  cases hk<;>cases hc<;>cases g<;>simp[hnil']<;>omega
 refine y6 (zn (zD (zD (zr ?_))))
 refine zq ?_
 refine zv ?_
 refine z8 ?_
 refine zb ?_
 refine zN ?_
 refine zw 14 ?_
 refine xc 15 ?_
 refine zW ?_
 refine zb ?_
 refine zN ?_
 refine zw 19 ?_
 refine xc 20 ?_
 refine zW ?_
 refine zb ?_
 refine zN ?_
 refine zw 24 ?_
 refine xc 25 ?_
 refine zW (zJ (zn ?_))
 refine yt (fun hz=> ?_) (fun hz=> ?_)
 ·have hz:flg ⟨piv,hk,kid,hc,ctx,g⟩=0:=hz0.2 (by simpa[and_assoc]using hz)
  rw[if_pos hz]
  refine zD (zr ?_)
  refine zc ?_
  refine zc (zJ (zn (xj (xx ?_))))
  refine AQ.g ?_
  refine G.nilRo 2 rfl ?_
  refine AQ.u ?_
  try dsimp only[List.map,List.eraseIdx,cA,cN]
  refine xS
 have hz: ¬flg ⟨piv,hk,kid,hc,ctx,g⟩=0:=fun e=>by
  obtain⟨rfl,rfl,rfl,rfl⟩:=hz0.1 e
  simp at hz
 rw[if_neg hz]
 obtain⟨n,hn⟩: ∃n:Int,n=(b0T piv).length:=⟨_,rfl⟩
 refine y6 (zn (zD (zr ?_)))
 refine zq ?_
 refine zv ?_
 refine vO (xM rfl Tryz.func74 rfl rfl rfl (i0V _)) ?_
 refine zc (zJ (zn (zD (zr ?_))))
 refine zb ?_
 refine zX ?_
 refine zc (zJ (zn (zD (zD (zr ?_)))))
 refine zq ?_
 refine zv (zJ (zn ?_))
 simp only[←hn]
 refine xR True [(1,_),(4,_)] [(5,.val (.int .i64 (bif hk then n+8 else n)))] [.blk B 52 6 [.val (.int .i64 piv),.val (.bool hk),roB kid,.val (.bool hc),roB ctx,.val (.bool g)]] (fun hb=> ?_) (fun hb=> ?_) (fun hj=> ?_)<;>try(try simp only[vT]at hb)
 ·subst hb
  refine zr ?_
  refine zb ?_
  refine zB ?_
  refine zc (zJ ?_)
  refine yl
 ·subst hb
  refine y6 ?_
  refine yl
 dsimp only[cA,cN]
 refine zn ?_
 obtain⟨n1,hn1⟩: ∃n1:Int,n1=bif hk then n+8 else n:=⟨_,rfl⟩
 have b1:0≤n1∧n1≤13:=by rw[hn1];cases hk<;>simp<;>omega
 rw[←hn1]
 refine zD (zD (zr ?_))
 refine zq ?_
 refine zv (zJ (zn ?_))
 refine xR True [(1,_),(4,_)] [(5,.val (.int .i64 (bif hc then n1+16 else n1)))] [.blk B 52 6 [.val (.int .i64 piv),.val (.bool hk),roB kid,.val (.bool hc),roB ctx,.val (.bool g)]] (fun hb=> ?_) (fun hb=> ?_) (fun hj=> ?_)<;>try(try simp only[vT]at hb)
 ·subst hb
  refine zr ?_
  refine zb ?_
  refine zB ?_
  refine zc (zJ ?_)
  refine yl
 ·subst hb
  refine y6 ?_
  refine yl
 dsimp only[cA,cN]
 refine zn ?_
 obtain⟨n2,hn2⟩: ∃n2:Int,n2=bif hc then n1+16 else n1:=⟨_,rfl⟩
 have b2:0≤n2∧n2≤29:=by rw[hn2];cases hc<;>simp<;>omega
 rw[←hn2]
 refine zD (zD (zr ?_))
 refine zq ?_
 refine zv (zJ (zn ?_))
 refine xR True [(1,_),(4,_)] [(5,.val (.int .i64 (bif g then n2+32 else n2)))] [.blk B 52 6 [.val (.int .i64 piv),.val (.bool hk),roB kid,.val (.bool hc),roB ctx,.val (.bool g)]] (fun hb=> ?_) (fun hb=> ?_) (fun hj=> ?_)<;>try(try simp only[vT]at hb)
 ·subst hb
  refine zr ?_
  refine zb ?_
  refine zB ?_
  refine zc (zJ ?_)
  refine yl
 ·subst hb
  refine y6 ?_
  refine yl
 dsimp only[cA,cN]
 refine zn ?_
 have hf:(bif g then n2+32 else n2)=flg ⟨piv,hk,kid,hc,ctx,g⟩:=by
  rw[hn2,hn1,hn];unfold flg;cases hk<;>cases hc<;>cases g<;>simp
 rw[hf]
 have e2:s0k ⟨piv,hk,kid,hc,ctx,g⟩=u8 (flg ⟨piv,hk,kid,hc,ctx,g⟩)::b0T piv++(if hc then u8 ctx.length::ctx else [])++kid:=rfl
 rw[e2]
 obtain⟨f,hfd⟩: ∃f,f=flg ⟨piv,hk,kid,hc,ctx,g⟩:=⟨_,rfl⟩
 rw[←hfd]at hfl⊢
 refine zD (zr ?_)
 refine zb ?_
 refine xg ?_
 refine zR ?_
 intro B
 refine AO.g ?_
 refine xT B 1 1 0 rfl rfl rfl (Nat.le_refl _) ?_
 refine AO.u ?_
 dsimp only[List.set]
 refine zb ?_
 refine zF 0 ?_
 intro V hV
 refine zc (zJ (zn (zD (zD (zr ?_)))))
 refine zq ?_
 refine zp (zJ (zn ?_))
 refine yt (fun hb=> ?_) (fun hb=> ?_)
 ·subst hb
  refine zD (zr ?_)
  refine zb ?_
  refine zq ?_
  refine zp ?_
  refine zX ?_
  refine xg ?_
  refine zR ?_
  intro B
  refine AO.g ?_
  refine yi 0 57 ?_
  refine wm 57 ?_
  refine AO.u ?_
  dsimp only[List.eraseIdx]
  refine zy 0 ?_
  intro V hV
  refine zc (zJ (zn (zr ?_)))
  refine zb ?_
  refine zq ?_
  refine zp ?_
  refine zF 0 ?_
  intro V hV
  refine zc (zJ (zn (zD (zr ?_))))
  refine zb ?_
  refine zq ?_
  refine zp ?_
  refine yP 0 ?_
  intro V hV
  refine zc ?_
  refine zc (zJ (zn (xj ?_)))
  refine AQ.g ?_
  refine yf 0 [2] ?_
  refine AQ.u ?_
  try dsimp only[List.map,List.eraseIdx,cA,cN]
  refine AQ.ret2 rfl rfl rfl nS (⟨congrArg (fun z=>AV.tup [z,.val (.int .i64 0)]) (b0u (by simp;omega) (by simp[a0a])),rfl⟩)
 subst hb
 refine y6 (zn (zD (zr ?_)))
 refine zb ?_
 refine zq ?_
 refine zp ?_
 refine yP 0 ?_
 intro V hV
 refine zc ?_
 refine zc (zJ (zn (xj ?_)))
 refine AQ.g ?_
 refine yf 0 [2] ?_
 refine AQ.u ?_
 try dsimp only[List.map,List.eraseIdx,cA,cN]
 refine AQ.ret2 rfl rfl rfl nS (⟨congrArg (fun z=>AV.tup [z,.val (.int .i64 0)]) (b0u (by simp;omega) (by simp[a0a])),rfl⟩)
def Cmp.zero:Cmp:=⟨0,false,[],false,[],false⟩
def s0l (f:Nat)(piv:Int)(hc:Bool)(ctx t:List UInt8):Cmp×Int:=
 if f&&&8=0 then(if 0<t.length then(.zero,9)else(⟨piv,false,[],hc,ctx,(((f&&&32:Nat):Int) !=0)⟩,0))
 else if 7<t.length then(.zero,8)else(⟨piv,true,t,hc,ctx,(((f&&&32:Nat):Int) !=0)⟩,0)
def j0J (f:Nat)(piv:Int)(s:List UInt8):Cmp×Int:=
 if f&&&16=0 then s0l f piv false [] s
 else if s.length=0 then(.zero,2)else if 16<(bt s 0).toNat then(.zero,8)else if s.length<1+(bt s 0).toNat then(.zero,2)else s0l f piv true ((s.drop 1).take (bt s 0).toNat) (s.drop (1+(bt s 0).toNat))
def w0k (f:Nat)(r:List UInt8):Cmp×Int:=
 if r.length<f%8 then(.zero,2)else if 0<f%8 then(if(d0J (r.take (f%8))).2≠0 then(.zero,(d0J (r.take (f%8))).2)else j0J f (d0J (r.take (f%8))).1 (r.drop (f%8)))else j0J f (-1) (r.drop (f%8))
def p0x (b:List UInt8):Cmp×Int:=
 if b.length=0 then(⟨-1,false,[],false,[],false⟩,0)else if 30<b.length then(.zero,8)
 else if(bt b 0).toNat=0∨64≤(bt b 0).toNat∨5<(bt b 0).toNat%8 then(.zero,4)else w0k (bt b 0).toNat (b.drop 1)
abbrev u0Z (r:Cmp×Int):AV:= .tup [q0e r.1,.val (.int .i64 r.2)]
theorem d0W {q:AV}{r:Cmp×Int}{c:Cmp}{e:Int}(h:r=(c,e))(hq:q= .tup [q0e c,.val (.int .i64 e)]):Is (u0Z r) q []:=by subst h;exact⟨hq,rfl⟩
theorem n0i (b:List UInt8):Sp Tryz.prog 70 [roB b] [] (Is (u0Z (p0x b))):=by
 obtain⟨res,hres⟩: ∃res,p0x b=res:=⟨_,rfl⟩
 rw[hres]
 unfold p0x at hres
 refine yX Tryz.func70 _ Tryz.ntmps70 (fun w0 R0=> ?_)
 refine zD (zr ?_)
 refine zd ?_
 intro B
 refine zc (zJ (zn (zD (zr ?_))))
 refine zP ?_
 refine zd ?_
 intro B
 refine za 0 (zJ (zn (zD (zD (zr ?_)))))
 refine zb ?_
 refine zX ?_
 refine z8 (zJ (zn ?_))
 rename_i B1
 refine yt (fun h0=> ?_) (fun h0=> ?_)<;>(try simp only[vT]at h0)
 ·rw[if_pos (by omega)]at hres
  refine zD (zr ?_)
  refine zC ?_
  refine za 1 ?_
  refine zc (zJ (zn (xj (xx ?_))))
  refine wa zm zl (d0W hres.symm rfl)
 rw[if_neg (by omega)]at hres
 refine y6 (zn (zD (zD (zr ?_))))
 refine zb ?_
 refine zX ?_
 refine yZ (zJ (zn ?_))
 refine yt (fun h1=> ?_) (fun h1=> ?_)<;>(try simp only[vT]at h1)
 ·rw[if_pos (by omega)]at hres
  refine zD (zr ?_)
  refine zP ?_
  refine za 1 ?_
  refine zc (zJ (zn (xj (xx ?_))))
  refine wa zm zl (d0W hres.symm rfl)
 rw[if_neg (by omega)]at hres
 have hx:=b0B (bt b 0)
 obtain⟨f,hf⟩: ∃f,f=(bt b 0).toNat:=⟨_,rfl⟩
 rw[←hf]at hres hx
 refine y6 (zn (zD (zr ?_)))
 refine zb ?_
 refine ye ?_
 refine vO (O.loadR rfl rfl (by exact b0l (k:=0) (by omega) rfl)) ?_
 refine zc (zJ (zn (zD (zr ?_))))
 refine zb ?_
 refine vO (O.and_ rfl rfl rfl (k0X 3 (by decide) (by decide) (m:=8) (by decide) (by omega))) ?_
 refine xU ?_
 refine zc (zJ (zn (zD (zD (zr ?_)))))
 refine zb ?_
 refine z8 ?_
 refine zb ?_
 refine yC ?_
 refine AO.opG rfl rfl rfl (fun hp=>ve 28 rfl (by exact hp) vC) ?_
 refine zI ?_
 refine zb ?_
 refine yC ?_
 refine yB 32 ?_
 refine zI (zJ (zn ?_))
 rw[←hf]
 refine yt (fun h2=> ?_) (fun h2=> ?_)<;>(try simp only[vT]at h2)
 ·rw[if_pos (by omega)]at hres
  refine zD (zr ?_)
  refine zP ?_
  refine za 1 ?_
  refine zc (zJ (zn (xj (xx ?_))))
  refine wa zm zl (d0W hres.symm rfl)
 rw[if_neg (by omega)]at hres
 unfold w0k at hres
 have hn8:(f:Int)%8=((f%8:Nat):Int):=by omega
 rw[hn8]
 obtain⟨n,hn⟩: ∃n,n=f%8:=⟨_,rfl⟩
 rw[←hn]at hres⊢
 have hn5:n≤5:=by omega
 refine y6 (zn (zD (zr ?_)))
 refine zb ?_
 refine vO (O.and_ rfl rfl rfl (m0g (c:=32) (by omega) (by decide))) ?_
 refine y2 ?_
 refine zq ?_
 refine za 0 (zJ (zn (zD (zr ?_))))
 refine zb ?_
 refine vO (O.sliceFromB (k:=1) rfl rfl rfl (by rfl) (by omega)) ?_
 refine zc (zJ (zn (zD (zD (zr ?_)))))
 refine zb ?_
 refine zX ?_
 refine zb ?_
 refine zT (zJ (zn ?_))
 have hl1:(b.drop 1).length=b.length-1:=by simp
 obtain⟨r,hr⟩: ∃r,r=b.drop 1:=⟨_,rfl⟩
 rw[←hr]at hres hl1⊢
 refine yt (fun h3=> ?_) (fun h3=> ?_)<;>(try simp only[vT]at h3)
 ·rw[if_pos (by omega)]at hres
  refine zD (zr ?_)
  refine zP ?_
  refine za 1 ?_
  refine zc (zJ (zn (xj (xx ?_))))
  refine wa zm zl (d0W hres.symm rfl)
 rw[if_neg (by omega)]at hres
 refine y6 (zn (zD (zD (zr ?_))))
 refine zb ?_
 refine yZ (zJ (zn ?_))
 refine xR (j0J f (if 0<n then(d0J (r.take n)).1 else -1) (r.drop n)=res) [(2,_),(4,_),(5,_),(6,_)] [(0,roB r)] [.blk B 52 6 [.val (.int .i64 (if 0<n then(d0J (r.take n)).1 else -1)),.val (.bool false),.val (.slice none 0 0),.val (.bool false),.val (.slice none 0 0),.val (.bool ((((f&&&32:Nat):Int) !=0)))],.blk B1 52 6 [.val (.int .i64 0),.val (.bool false),.val (.slice none 0 0),.val (.bool false),.val (.slice none 0 0),.val (.bool false)]] (fun h4=> ?_) (fun h4=> ?_) (fun hj=> ?_)<;>try(try simp only[vT]at h4)
 ·have h4:0<n:=by omega
  rw[if_pos h4]at hres
  refine zD (zr ?_)
  refine zb ?_
  refine zb ?_
  refine vO (O.sliceToB rfl rfl rfl (by rfl) (by omega)) ?_
  refine vO (xM rfl Tryz.func129 rfl rfl rfl (o0T _)) ?_
  refine zb ?_
  refine zK ?_
  refine zK ?_
  refine zc ?_
  refine zc (zJ (zn (zD (zD (zr ?_)))))
  refine zb ?_
  refine y2 (zJ (zn ?_))
  refine yt (fun h5=> ?_) (fun h5=> ?_)<;>(try simp only[vT]at h5)
  ·rw[if_pos h5]at hres
   refine zD (zr ?_)
   refine zP ?_
   refine zb ?_
   refine za 1 ?_
   refine zc (zJ (zn (xj (xx ?_))))
   refine AQ.midR (xx ?_)
   refine wa zm zl (d0W hres.symm rfl)
  rw[if_neg (by omega)]at hres
  rw[if_pos h4]
  refine y6 (zn (zr ?_))
  refine zb ?_
  refine zq ?_
  refine za 0 (zJ ?_)
  refine wE hres
 ·have h4: ¬0<n:=by omega
  rw[if_neg h4]at hres
  rw[if_neg h4]
  refine y6 ?_
  refine wE hres
 dsimp only[cA,cN]
 refine zn ?_
 obtain⟨piv,hp⟩: ∃piv,piv=(if 0<n then(d0J (r.take n)).1 else -1):=⟨_,rfl⟩
 rw[←hp]at hj⊢
 clear hres
 refine zD (zr ?_)
 refine zb ?_
 refine zb ?_
 refine vO (O.sliceFromB rfl rfl rfl (by rfl) (by omega)) ?_
 refine zc (zJ (zn (zD (zD (zr ?_)))))
 refine zb ?_
 refine vO (O.and_ rfl rfl rfl (m0g (c:=16) (by omega) (by decide))) ?_
 refine y2 (zJ (zn ?_))
 have hl2:(r.drop n).length=r.length-n:=by simp
 obtain⟨s,hs⟩: ∃s,s=r.drop n:=⟨_,rfl⟩
 rw[←hs]at hj hl2⊢
 unfold j0J at hj
 have hfl: ∀c:Nat,((f&&&c:Nat):Int)=0↔f&&&c=0:=fun c=>by omega
 refine yt (fun h6=> ?_) (fun h6=> ?_)<;>(try simp only[vT]at h6)
 ·rw[if_neg (by omega)]at hj
  refine zD (zD (zr ?_))
  refine zb ?_
  refine zX ?_
  refine z8 (zJ (zn ?_))
  refine yt (fun h7=> ?_) (fun h7=> ?_)<;>(try simp only[vT]at h7)
  ·rw[if_pos (by omega)]at hj
   refine zD (zr ?_)
   refine zP ?_
   refine za 1 ?_
   refine zc (zJ (zn (xj (xx (xx ?_)))))
   refine wa zm zl (d0W hj.symm rfl)
  rw[if_neg (by omega)]at hj
  have hxs:=b0B (bt s 0)
  obtain⟨m,hm⟩: ∃m,m=(bt s 0).toNat:=⟨_,rfl⟩
  rw[←hm]at hj hxs
  refine y6 (zn (zD (zr ?_)))
  refine zb ?_
  refine ye ?_
  refine vO (O.loadR rfl rfl (by exact b0l (k:=0) (by omega) rfl)) ?_
  refine xU ?_
  refine zc (zJ (zn (zD (zD (zr ?_)))))
  refine zb ?_
  refine yZ (zJ (zn ?_))
  rw[←hm]
  refine yt (fun h8=> ?_) (fun h8=> ?_)<;>(try simp only[vT]at h8)
  ·rw[if_pos (by omega)]at hj
   refine zD (zr ?_)
   refine zP ?_
   refine za 1 ?_
   refine zc (zJ (zn (xj (xx (xx ?_)))))
   refine wa zm zl (d0W hj.symm rfl)
  rw[if_neg (by omega)]at hj
  refine y6 (zn (zD (zD (zr ?_))))
  refine zb ?_
  refine zX ?_
  refine zb ?_
  refine zB ?_
  refine zT (zJ (zn ?_))
  refine yt (fun h9=> ?_) (fun h9=> ?_)<;>(try simp only[vT]at h9)
  ·rw[if_pos (by omega)]at hj
   refine zD (zr ?_)
   refine zP ?_
   refine za 1 ?_
   refine zc (zJ (zn (xj (xx (xx ?_)))))
   refine wa zm zl (d0W hj.symm rfl)
  rw[if_neg (by omega)]at hj
  have hl3:(s.drop (1+m)).length=s.length-(1+m):=by simp
  have e9:(s.drop 1).take (1+m-1)=(s.drop 1).take m:=by rw[show 1+m-1=m by omega]
  refine y6 (zn (zD (zr ?_)))
  refine zb ?_
  refine zb ?_
  refine zB ?_
  refine vO (O.sliceLHB rfl rfl rfl rfl (lo:=1) (hi:=1+m) (by rfl) (by rfl) (by omega) (by omega)) ?_
  refine y4 ?_
  intro V hV
  refine AO.g ?_
  refine yQ 0 [89] ?_
  refine AO.u ?_
  dsimp only[List.map,List.eraseIdx,cA,cN]
  refine zq ?_
  refine za 0 ?_
  refine zq ?_
  refine za 0 (zJ (zn (zr ?_)))
  refine zb ?_
  refine zb ?_
  refine zB ?_
  refine vO (O.sliceFromB (k:=1+m) rfl rfl rfl (by rfl) (by omega)) ?_
  refine zc (zJ (zn (zD (zD (zr ?_)))))
  refine zb ?_
  refine vO (O.and_ rfl rfl rfl (m0g (c:=8) (by omega) (by decide))) ?_
  refine z8 (zJ (zn ?_))
  rw[e9]
  unfold s0l at hj
  refine yt (fun h7=> ?_) (fun h7=> ?_)<;>(try simp only[vT]at h7)
  ·rw[if_pos (by omega)]at hj
   refine zD (zD (zr ?_))
   refine zb ?_
   refine zX ?_
   refine yZ (zJ (zn ?_))
   refine yt (fun h8=> ?_) (fun h8=> ?_)<;>(try simp only[vT]at h8)
   ·rw[if_pos (by omega)]at hj
    refine zD (zr ?_)
    refine zP ?_
    refine za 1 ?_
    refine zc (zJ (zn (xj (xx (xx ?_)))))
    refine wa zm zl (d0W hj.symm rfl)
   rw[if_neg (by omega)]at hj
   refine y6 (zn (zD (zr ?_)))
   refine zC ?_
   refine za 1 ?_
   refine zc (zJ (zn (xj (xx ?_))))
   refine wa zm zl (d0W hj.symm rfl)
  rw[if_neg (by omega)]at hj
  refine y6 (zn (zD (zD (zr ?_))))
  refine zb ?_
  refine zX ?_
  refine yZ (zJ (zn ?_))
  refine yt (fun h8=> ?_) (fun h8=> ?_)<;>(try simp only[vT]at h8)
  ·rw[if_pos (by omega)]at hj
   refine zD (zr ?_)
   refine zP ?_
   refine za 1 ?_
   refine zc (zJ (zn (xj (xx ?_))))
   refine wa zm zl (d0W hj.symm rfl)
  rw[if_neg (by omega)]at hj
  refine y6 (zn (zD (zr ?_)))
  refine zb ?_
  refine yH ?_
  intro V hV
  refine AO.g ?_
  refine yQ 0 [109] ?_
  refine AO.u ?_
  dsimp only[List.map,List.eraseIdx,cA,cN]
  refine zq ?_
  refine za 0 ?_
  refine zq ?_
  refine za 0 (zJ (zn (zD (zr ?_))))
  refine zC ?_
  refine za 1 ?_
  refine zc (zJ (zn (xj ?_)))
  refine wa zm yR (d0W hj.symm rfl)
 rw[if_pos (by omega)]at hj
 unfold s0l at hj
 refine y6 (zn (zD (zD (zr ?_))))
 refine zb ?_
 refine vO (O.and_ rfl rfl rfl (m0g (c:=8) (by omega) (by decide))) ?_
 refine z8 (zJ (zn ?_))
 refine yt (fun h7=> ?_) (fun h7=> ?_)<;>(try simp only[vT]at h7)
 ·rw[if_pos (by omega)]at hj
  refine zD (zD (zr ?_))
  refine zb ?_
  refine zX ?_
  refine yZ (zJ (zn ?_))
  refine yt (fun h8=> ?_) (fun h8=> ?_)<;>(try simp only[vT]at h8)
  ·rw[if_pos (by omega)]at hj
   refine zD (zr ?_)
   refine zP ?_
   refine za 1 ?_
   refine zc (zJ (zn (xj (xx (xx ?_)))))
   refine wa zm zl (d0W hj.symm rfl)
  rw[if_neg (by omega)]at hj
  refine y6 (zn (zD (zr ?_)))
  refine zC ?_
  refine za 1 ?_
  refine zc (zJ (zn (xj (xx ?_))))
  refine wa zm zl (d0W hj.symm rfl)
 rw[if_neg (by omega)]at hj
 refine y6 (zn (zD (zD (zr ?_))))
 refine zb ?_
 refine zX ?_
 refine yZ (zJ (zn ?_))
 refine yt (fun h8=> ?_) (fun h8=> ?_)<;>(try simp only[vT]at h8)
 ·rw[if_pos (by omega)]at hj
  refine zD (zr ?_)
  refine zP ?_
  refine za 1 ?_
  refine zc (zJ (zn (xj (xx ?_))))
  refine wa zm zl (d0W hj.symm rfl)
 rw[if_neg (by omega)]at hj
 refine y6 (zn (zD (zr ?_)))
 refine zb ?_
 refine yH ?_
 intro V hV
 refine AO.g ?_
 refine yQ 0 [109] ?_
 refine AO.u ?_
 dsimp only[List.map,List.eraseIdx,cA,cN]
 refine zq ?_
 refine za 0 ?_
 refine zq ?_
 refine za 0 (zJ (zn (zD (zr ?_))))
 refine zC ?_
 refine za 1 ?_
 refine zc (zJ (zn (xj ?_)))
 refine wa zm zl (d0W hj.symm rfl)
theorem k0q (b:List UInt8):Sp Tryz.prog 72 [roB b] [] (Is (u0Z (p0x b))):=by
 obtain⟨res,hres⟩: ∃res,p0x b=res:=⟨_,rfl⟩
 rw[hres]
 unfold p0x at hres
 refine yX Tryz.func72 _ Tryz.ntmps72 (fun w0 R0=> ?_)
 refine zD (zr ?_)
 refine zd ?_
 intro B
 refine zc (zJ (zn (zD (zr ?_))))
 refine zP ?_
 refine zd ?_
 intro B
 refine za 0 (zJ (zn (zD (zD (zr ?_)))))
 refine zb ?_
 refine zX ?_
 refine yZ (zJ (zn ?_))
 rename_i B1
 refine yt (fun h0=> ?_) (fun h0=> ?_)<;>(try simp only[vT]at h0)
 ·rw[if_neg (by omega),if_pos (by omega)]at hres
  refine zD (zr ?_)
  refine zP ?_
  refine za 1 ?_
  refine zc (zJ (zn (xj (xx ?_))))
  refine wa zm zl (d0W hres.symm rfl)
 refine y6 (zn (zD (zD (zr ?_))))
 refine zb ?_
 refine zX ?_
 refine z8 (zJ (zn ?_))
 refine yt (fun h1=> ?_) (fun h1=> ?_)<;>(try simp only[vT]at h1)
 ·rw[if_pos (by omega)]at hres
  refine zD (zr ?_)
  refine zC ?_
  refine za 1 ?_
  refine zc (zJ (zn (xj (xx ?_))))
  refine wa zm zl (d0W hres.symm rfl)
 rw[if_neg (by omega),if_neg (by omega)]at hres
 have hx:=b0B (bt b 0)
 obtain⟨f,hf⟩: ∃f,f=(bt b 0).toNat:=⟨_,rfl⟩
 rw[←hf]at hres hx
 refine y6 (zn (zD (zr ?_)))
 refine zb ?_
 refine ye ?_
 refine vO (O.loadR rfl rfl (by exact b0l (k:=0) (by omega) rfl)) ?_
 refine xU ?_
 refine zc (zJ (zn (zD (zr ?_))))
 refine zb ?_
 refine vO (O.rem rfl rfl rfl (by omega) rfl) ?_
 refine zc (zJ (zn (zD (zD (zr ?_)))))
 refine zb ?_
 refine z8 ?_
 refine zb ?_
 refine yC ?_
 refine yB 28 ?_
 refine zI ?_
 refine zb ?_
 refine yC ?_
 refine yB 32 ?_
 refine zI (zJ (zn ?_))
 rw[←hf]
 have htm:(f:Int).tmod 8=(f:Int)%8:=Int.tmod_eq_emod_of_nonneg (by omega)
 simp only[htm]
 refine yt (fun h2=> ?_) (fun h2=> ?_)<;>(try simp only[vT]at h2)
 ·rw[if_pos (by omega)]at hres
  refine zD (zr ?_)
  refine zP ?_
  refine za 1 ?_
  refine zc (zJ (zn (xj (xx ?_))))
  refine wa zm zl (d0W hres.symm rfl)
 rw[if_neg (by omega)]at hres
 unfold w0k at hres
 have hn8:(f:Int)%8=((f%8:Nat):Int):=by omega
 rw[hn8]
 obtain⟨n,hn⟩: ∃n,n=f%8:=⟨_,rfl⟩
 rw[←hn]at hres⊢
 have hn5:n≤5:=by omega
 refine y6 (zn (zD (zr ?_)))
 refine zb ?_
 refine vO (O.and_ rfl rfl rfl (k0Y (c:=8) (by omega) (by decide))) ?_
 refine y2 ?_
 refine zb ?_
 refine vO (O.and_ rfl rfl rfl (k0Y (c:=16) (by omega) (by decide))) ?_
 refine y2 ?_
 refine zb ?_
 refine vO (O.and_ rfl rfl rfl (k0Y (c:=32) (by omega) (by decide))) ?_
 refine y2 ?_
 refine zq ?_
 refine za 0 ?_
 refine zq ?_
 refine za 0 ?_
 refine zq ?_
 refine za 0 (zJ (zn (zD (zr ?_))))
 refine zb ?_
 refine vO (O.sliceFromB (k:=1) rfl rfl rfl (by rfl) (by omega)) ?_
 refine zc (zJ (zn (zD (zD (zr ?_)))))
 refine zb ?_
 refine zX ?_
 refine zb ?_
 refine zT (zJ (zn ?_))
 have hl1:(b.drop 1).length=b.length-1:=by simp
 obtain⟨r,hr⟩: ∃r,r=b.drop 1:=⟨_,rfl⟩
 rw[←hr]at hres hl1⊢
 refine yt (fun h3=> ?_) (fun h3=> ?_)<;>(try simp only[vT]at h3)
 ·rw[if_pos (by omega)]at hres
  refine zD (zr ?_)
  refine zP ?_
  refine za 1 ?_
  refine zc (zJ (zn (xj (xx ?_))))
  refine wa zm zl (d0W hres.symm rfl)
 rw[if_neg (by omega)]at hres
 refine y6 (zn (zD (zD (zr ?_))))
 refine zb ?_
 refine yZ (zJ (zn ?_))
 refine xR (j0J f (if 0<n then(d0J (r.take n)).1 else -1) (r.drop n)=res) [(2,_),(4,_),(6,_)] [(0,roB r)] [.blk B 52 6 [.val (.int .i64 (if 0<n then(d0J (r.take n)).1 else -1)),.val (.bool (((f&&&8:Nat):Int) !=0)),.val (.slice none 0 0),.val (.bool (((f&&&16:Nat):Int) !=0)),.val (.slice none 0 0),.val (.bool (((f&&&32:Nat):Int) !=0))],.blk B1 52 6 [.val (.int .i64 0),.val (.bool false),.val (.slice none 0 0),.val (.bool false),.val (.slice none 0 0),.val (.bool false)]] (fun h4=> ?_) (fun h4=> ?_) (fun hj=> ?_)<;>try(try simp only[vT]at h4)
 ·have h4:0<n:=by omega
  rw[if_pos h4]at hres
  refine zD (zr ?_)
  refine zb ?_
  refine zb ?_
  refine vO (O.sliceToB rfl rfl rfl (by rfl) (by omega)) ?_
  refine vO (xM rfl Tryz.func130 rfl rfl rfl (m0t _)) ?_
  refine zb ?_
  refine zK ?_
  refine zK ?_
  refine zc ?_
  refine zc (zJ (zn (zD (zD (zr ?_)))))
  refine zb ?_
  refine y2 (zJ (zn ?_))
  refine yt (fun h5=> ?_) (fun h5=> ?_)<;>(try simp only[vT]at h5)
  ·rw[if_pos h5]at hres
   refine zD (zr ?_)
   refine zP ?_
   refine zb ?_
   refine za 1 ?_
   refine zc (zJ (zn (xj (xx ?_))))
   refine AQ.midR (xx ?_)
   refine wa zm zl (d0W hres.symm rfl)
  rw[if_neg (by omega)]at hres
  rw[if_pos h4]
  refine y6 (zn (zr ?_))
  refine zb ?_
  refine zq ?_
  refine za 0 (zJ ?_)
  refine wE hres
 ·have h4: ¬0<n:=by omega
  rw[if_neg h4]at hres
  rw[if_neg h4]
  refine y6 ?_
  refine wE hres
 dsimp only[cA,cN]
 refine zn ?_
 obtain⟨piv,hp⟩: ∃piv,piv=(if 0<n then(d0J (r.take n)).1 else -1):=⟨_,rfl⟩
 rw[←hp]at hj⊢
 clear hres
 refine zD (zr ?_)
 refine zb ?_
 refine zb ?_
 refine vO (O.sliceFromB rfl rfl rfl (by rfl) (by omega)) ?_
 refine zc (zJ (zn (zD (zD (zr ?_)))))
 refine zq ?_
 refine zv (zJ (zn ?_))
 have hl2:(r.drop n).length=r.length-n:=by simp
 obtain⟨s,hs⟩: ∃s,s=r.drop n:=⟨_,rfl⟩
 rw[←hs]at hj hl2⊢
 unfold j0J at hj
 have hfl: ∀c:Nat,((f&&&c:Nat):Int)=0↔f&&&c=0:=fun c=>by omega
 refine yt (fun h6=> ?_) (fun h6=> ?_)<;>(try simp only[vT]at h6)
 ·have hb16:(((f&&&16:Nat):Int) !=0)=true:=bne_iff_ne.2 (by omega)
  rw[if_neg (by omega)]at hj
  refine zD (zD (zr ?_))
  refine zb ?_
  refine zX ?_
  refine z8 (zJ (zn ?_))
  refine yt (fun h7=> ?_) (fun h7=> ?_)<;>(try simp only[vT]at h7)
  ·rw[if_pos (by omega)]at hj
   refine zD (zr ?_)
   refine zP ?_
   refine za 1 ?_
   refine zc (zJ (zn (xj (xx (xx ?_)))))
   refine wa zm zl (d0W hj.symm rfl)
  rw[if_neg (by omega)]at hj
  have hxs:=b0B (bt s 0)
  obtain⟨m,hm⟩: ∃m,m=(bt s 0).toNat:=⟨_,rfl⟩
  rw[←hm]at hj hxs
  refine y6 (zn (zD (zr ?_)))
  refine zb ?_
  refine ye ?_
  refine vO (O.loadR rfl rfl (by exact b0l (k:=0) (by omega) rfl)) ?_
  refine xU ?_
  refine zc (zJ (zn (zD (zD (zr ?_)))))
  refine zb ?_
  refine yZ (zJ (zn ?_))
  rw[←hm]
  refine yt (fun h8=> ?_) (fun h8=> ?_)<;>(try simp only[vT]at h8)
  ·rw[if_pos (by omega)]at hj
   refine zD (zr ?_)
   refine zP ?_
   refine za 1 ?_
   refine zc (zJ (zn (xj (xx (xx ?_)))))
   refine wa zm zl (d0W hj.symm rfl)
  rw[if_neg (by omega)]at hj
  refine y6 (zn (zD (zD (zr ?_))))
  refine zb ?_
  refine zX ?_
  refine zb ?_
  refine zB ?_
  refine zT (zJ (zn ?_))
  refine yt (fun h9=> ?_) (fun h9=> ?_)<;>(try simp only[vT]at h9)
  ·rw[if_pos (by omega)]at hj
   refine zD (zr ?_)
   refine zP ?_
   refine za 1 ?_
   refine zc (zJ (zn (xj (xx (xx ?_)))))
   refine wa zm zl (d0W hj.symm rfl)
  rw[if_neg (by omega)]at hj
  have hl3:(s.drop (1+m)).length=s.length-(1+m):=by simp
  have e9:(s.drop 1).take (1+m-1)=(s.drop 1).take m:=by rw[show 1+m-1=m by omega]
  refine y6 (zn ?_)
  refine AW.regionM [(0,false),(1,false),(2,false),(3,false),(4,false),(5,false),(6,false),(7,false),(8,false),(9,false),(10,true),(11,true)] (by kernel_rfl) (by kernel_rfl) (by exact(by exact a0K 4 0 rfl rfl a0g)) ?_
  dsimp only[List.eraseIdx]
  refine yW ?_
  refine yW ?_
  refine vQ rfl zG ?_
  refine vQ rfl (O.sliceLHB rfl rfl rfl rfl (lo:=1) (hi:=1+m) (by rfl) (by rfl) (by omega) (by omega)) ?_
  (refine AM.op rfl (O.call rfl Tryz.func69 rfl rfl rfl (a0p _ (by(simp<;>omega)))) rfl rfl rfl ?_)
  refine yW ?_
  refine yW ?_
  refine vQ rfl zG ?_
  refine vQ rfl (O.sliceFromB (k:=1+m) rfl rfl rfl (by rfl) (by omega)) ?_
  refine y1 ?_
  refine xN _ (fun w0 R0=> ?_)
  refine za 0 (vI ?_)
  dsimp only[a0q]
  refine xN _ (fun w0 R0=> ?_)
  refine zc ?_
  refine AM.ok ?_
  dsimp only[a0q]
  refine vd ?_
  dsimp only[cA,cN]
  refine zn (zD (zD (zr ?_)))
  refine zq ?_
  refine zv ?_
  refine xu ?_
  refine zb ?_
  refine yC ?_
  refine yb 106 ?_
  refine yB 107 ?_
  refine zW (zJ (zn ?_))
  rw[e9]
  unfold s0l at hj
  refine yt (fun h7=> ?_) (fun h7=> ?_)<;>(try simp only[vT]at h7)
  ·rw[if_pos (by omega),if_pos (by omega)]at hj
   refine zD (zr ?_)
   refine zP ?_
   refine za 1 ?_
   refine zc (zJ (zn (xj (xx ?_))))
   refine wa zm zl (d0W hj.symm rfl)
  refine y6 (zn (zD (zD (zr ?_))))
  refine zb ?_
  refine zX ?_
  refine yZ (zJ (zn ?_))
  refine yt (fun h8=> ?_) (fun h8=> ?_)<;>(try simp only[vT]at h8)
  ·rw[if_neg (by omega),if_pos (by omega)]at hj
   refine zD (zr ?_)
   refine zP ?_
   refine za 1 ?_
   refine zc (zJ (zn (xj (xx ?_))))
   refine wa zm zl (d0W hj.symm rfl)
  by_cases h10:f&&&8=0
  ·rw[if_pos h10,if_neg (by omega)]at hj
   have hnil:s.drop (1+m)= []:=List.eq_nil_of_length_eq_zero (by omega)
   have hne:(((f&&&8:Nat):Int) !=0)=false:=bne_eq_false_iff_eq.2 (by omega)
   simp only[hne,hb16,hnil]
   refine y6 (zn (zD (zr ?_)))
   refine zb ?_
   (refine AO.op (O.call rfl Tryz.func69 rfl rfl rfl (a0p _ (by(simp<;>omega)))) rfl rfl rfl ?_)
   refine zq ?_
   refine za 0 (zJ (zn (zD (zr ?_))))
   refine zC ?_
   refine za 1 ?_
   refine zc (zJ (zn (xj ?_)))
   refine wa zm yR (d0W hj.symm rfl)
  rw[if_neg h10,if_neg (by omega)]at hj
  have hne:(((f&&&8:Nat):Int) !=0)=true:=bne_iff_ne.2 (by omega)
  simp only[hne,hb16]
  refine y6 (zn (zD (zr ?_)))
  refine zb ?_
  refine vO (xM rfl Tryz.func69 rfl rfl rfl (a0p _ (by omega))) ?_
  refine zq ?_
  refine za 0 (zJ (zn (zD (zr ?_))))
  refine zC ?_
  refine za 1 ?_
  refine zc (zJ (zn (xj ?_)))
  refine wa zm yR (d0W hj.symm rfl)
 rw[if_pos (by omega)]at hj
 have hb16:(((f&&&16:Nat):Int) !=0)=false:=bne_eq_false_iff_eq.2 (by omega)
 unfold s0l at hj
 refine y6 (zn (zD (zD (zr ?_))))
 refine zq ?_
 refine zv ?_
 refine xu ?_
 refine zb ?_
 refine yC ?_
 refine yb 106 ?_
 refine yB 107 ?_
 refine zW (zJ (zn ?_))
 refine yt (fun h7=> ?_) (fun h7=> ?_)<;>(try simp only[vT]at h7)
 ·rw[if_pos (by omega),if_pos (by omega)]at hj
  refine zD (zr ?_)
  refine zP ?_
  refine za 1 ?_
  refine zc (zJ (zn (xj (xx ?_))))
  refine wa zm zl (d0W hj.symm rfl)
 refine y6 (zn (zD (zD (zr ?_))))
 refine zb ?_
 refine zX ?_
 refine yZ (zJ (zn ?_))
 refine yt (fun h8=> ?_) (fun h8=> ?_)<;>(try simp only[vT]at h8)
 ·rw[if_neg (by omega),if_pos (by omega)]at hj
  refine zD (zr ?_)
  refine zP ?_
  refine za 1 ?_
  refine zc (zJ (zn (xj (xx ?_))))
  refine wa zm zl (d0W hj.symm rfl)
 by_cases h10:f&&&8=0
 ·rw[if_pos h10,if_neg (by omega)]at hj
  have hnil:s= []:=List.eq_nil_of_length_eq_zero (by omega)
  have hne:(((f&&&8:Nat):Int) !=0)=false:=bne_eq_false_iff_eq.2 (by omega)
  simp only[hne,hb16,hnil]
  refine y6 (zn (zD (zr ?_)))
  refine zb ?_
  (refine AO.op (O.call rfl Tryz.func69 rfl rfl rfl (a0p _ (by(simp<;>omega)))) rfl rfl rfl ?_)
  refine zq ?_
  refine za 0 (zJ (zn (zD (zr ?_))))
  refine zC ?_
  refine za 1 ?_
  refine zc (zJ (zn (xj ?_)))
  refine wa zm zl (d0W hj.symm rfl)
 rw[if_neg h10,if_neg (by omega)]at hj
 have hne:(((f&&&8:Nat):Int) !=0)=true:=bne_iff_ne.2 (by omega)
 simp only[hne,hb16]
 refine y6 (zn (zD (zr ?_)))
 refine zb ?_
 refine vO (xM rfl Tryz.func69 rfl rfl rfl (a0p _ (by omega))) ?_
 refine zq ?_
 refine za 0 (zJ (zn (zD (zr ?_))))
 refine zC ?_
 refine za 1 ?_
 refine zc (zJ (zn (xj ?_)))
 refine wa zm zl (d0W hj.symm rfl)
end Go.Proofs.YtojomcdjcpmnkaaGreat.By
namespace Go.Proofs.YtojomcdjcpmnkaaGreat.By
open Go.RowKit L A
attribute [local irreducible] AW AQ AO
theorem t0A: ∀{x y:Opt},x.num=y.num→x.val=y.val→x=y
 |⟨_,_⟩,⟨_,_⟩,rfl,rfl=>rfl
theorem t0z {a b:List Opt}(h:a.length=b.length)(h2: ∀k,k<a.length→oat a k=oat b k):a=b:=by
 refine List.ext_getElem h fun k h3 h4=> ?_
 have:=h2 k h3
 simpa[oat,h3,h4]using this
theorem s0U (a b:Msg)(h0:a.opts.length≤140737488355328):Sp Tryz.prog 18 [b0c a,b0c b] [] (Is (.val (.bool (decide (a=b))))):=by
 refine yX Tryz.func18 _ Tryz.ntmps18 (fun w0 R0=> ?_)
 refine zD (zr ?_)
 refine yo ?_
 intro B1
 refine yo ?_
 intro B2
 refine zc (zJ (zn (zD (zD (zr ?_)))))
 refine zq ?_
 refine zp ?_
 refine zq ?_
 refine zv ?_
 refine y2 ?_
 refine zb ?_
 refine zN ?_
 refine yn 13 ?_
 refine zN ?_
 refine zw 15 ?_
 refine AO.opG rfl rfl rfl (fun hp=>ve 14 rfl (by exact hp) (ve 16 rfl (by exact hp) xn)) ?_
 refine zI ?_
 refine zb ?_
 refine zN ?_
 refine yn 20 ?_
 refine zN ?_
 refine zw 22 ?_
 refine AO.opG rfl rfl rfl (fun hp=>ve 21 rfl (by exact hp) (ve 23 rfl (by exact hp) xn)) ?_
 refine zI ?_
 refine zb ?_
 refine zN ?_
 refine yn 27 ?_
 refine AO.opG rfl rfl rfl (fun hp=>ve 28 rfl (by exact hp) (O.convS rfl rfl (by rfl))) ?_
 refine zN ?_
 refine zw 30 ?_
 refine AO.opG rfl rfl rfl (fun hp=>ve 31 rfl (by exact hp) (O.convS rfl rfl (by rfl))) ?_
 refine AO.opG rfl rfl rfl (fun hp=>ve 29 rfl (by exact hp) (ve 32 rfl (by exact hp) (O.neqS rfl rfl rfl (by rfl)))) ?_
 refine zI ?_
 refine zb ?_
 refine zN ?_
 refine yn 36 ?_
 refine AO.opG rfl rfl rfl (fun hp=>ve 37 rfl (by exact hp) (O.convS rfl rfl (by rfl))) ?_
 refine zN ?_
 refine zw 39 ?_
 refine AO.opG rfl rfl rfl (fun hp=>ve 40 rfl (by exact hp) (O.convS rfl rfl (by rfl))) ?_
 refine AO.opG rfl rfl rfl (fun hp=>ve 38 rfl (by exact hp) (ve 41 rfl (by exact hp) (O.neqS rfl rfl rfl (by rfl)))) ?_
 refine zI ?_
 refine zb ?_
 refine zN ?_
 refine yn 45 ?_
 refine yb 46 ?_
 refine zN ?_
 refine zw 48 ?_
 refine yb 49 ?_
 refine AO.opG rfl rfl rfl (fun hp=>ve 47 rfl (by exact hp) (ve 50 rfl (by exact hp) xn)) ?_
 refine zI (zJ (zn ?_))
 refine yt (fun h=> ?_) (fun h=> ?_)<;>(try simp only[vT]at h)
 ·have e:decide (a=b)=false:=decide_eq_false fun e=>by subst e;simp at h
  refine zD (zr ?_)
  refine zc (zJ (zn (xj (xx ?_))))
  refine vz rfl rfl nS (⟨congrArg (fun z=>AV.val (.bool z)) e.symm,rfl⟩)
 have hl:a.opts.length=b.opts.length:=by omega
 refine y6 (zn (zD (zD (zr ?_))))
 refine zq ?_
 refine zp ?_
 refine zX ?_
 refine zb (zJ (zn (xo ?_)))
 refine zi [(3,_),(54,_),(55,_)] (fun nn E H=> ∃(k:Nat),(k≤a.opts.length)∧((∀i,i<k→oat a.opts i=oat b.opts i))∧nn=a.opts.length-k∧E= [(56,.val (.int .i64 (k:Int)))]∧H= [.blk B2 29 6 [.val (.int .i64 b.ty),.val (.int .i64 b.code),.val (.int .i64 b.id),roB b.tok,roO b.opts,roB b.pay],.blk B1 29 6 [.val (.int .i64 a.ty),.val (.int .i64 a.code),.val (.int .i64 a.id),roB a.tok,roO a.opts,roB a.pay]]) _ (⟨0,by omega,fun i hi=>absurd hi (by omega),rfl,rfl,rfl⟩) ?_
 rintro nn E H ⟨k,h4,ha,rfl,rfl,rfl⟩
 dsimp only[cA,cN]
 refine zD (zr ?_)
 refine zT (zJ (zn (zD ?_)))
 refine yt (fun h5=> ?_) (fun h5=> ?_)<;>(try simp only[vT]at h5)
 ·have hk:k<a.opts.length:=by omega
  have hk2:k<b.opts.length:=by omega
  refine y6 (zn (zD (xo (zD (zr ?_)))))
  refine zb ?_
  refine ye ?_
  refine y3 ?_
  refine yh ?_
  intro B3
  refine zc ?_
  refine zo 0 (zJ (zn (zD ?_)))
  refine yA 22 ?_
  simp only[cT,cZ,cD,cO]
  refine yw ?_
  refine yU ?_
  refine yw ?_
  refine zM ?_
  refine zH ?_
  refine xr ?_
  refine vP (O.fieldAddrR rfl rfl) ?_
  refine vP (O.loadR rfl rfl (by exact t0W (by omega) (by omega))) ?_
  refine vP xn ?_
  refine zH ?_
  refine wy ?_
  refine FA.opG rfl rfl rfl rfl (fun hp=>ve 71 rfl (by exact hp) zh) ?_
  refine FA.opG rfl rfl rfl rfl (fun hp=>ve 72 rfl (by exact hp) (O.convS rfl rfl (by rfl))) ?_
  refine wy ?_
  refine FA.opG rfl rfl rfl rfl (fun hp=>xI 74 rfl (by exact hp)) ?_
  refine FA.opG rfl rfl rfl rfl (fun hp=>zg) ?_
  refine FA.opG rfl rfl rfl rfl (fun hp=>ve 75 rfl (by exact hp) (ve 76 rfl (by exact hp) ya)) ?_
  refine FA.opG rfl rfl rfl rfl (fun hp=>ve 77 rfl (by exact hp) (O.fieldAddrR rfl rfl)) ?_
  refine FA.opG rfl rfl rfl rfl (fun hp=>ve 78 rfl (by exact hp) (O.loadR rfl rfl (by exact w0Q (by omega) (by omega)))) ?_
  refine FA.opG rfl rfl rfl rfl (fun hp=>ve 79 rfl (by exact hp) (O.convS rfl rfl (by rfl))) ?_
  refine FA.opG rfl rfl rfl rfl (fun hp=>ve 73 rfl (by exact hp) (ve 80 rfl (by exact hp) (O.neqS rfl rfl rfl (by rfl)))) ?_
  refine vP zO ?_
  refine vb ?_
  simp only[a0h,cN,cA,cP]
  refine zJ (zn ?_)
  refine yt (fun h6=> ?_) (fun h6=> ?_)<;>(try simp only[vT]at h6)
  ·have e:decide (a=b)=false:=decide_eq_false fun e=>by subst e;simp at h6
   refine zD (zr ?_)
   refine zc (zJ (zn (xj ?_)))
   refine ww (xx ?_)
   refine AQ.loopR ?_
   refine ww (xx ?_)
   refine vz rfl rfl nS (⟨congrArg (fun z=>AV.val (.bool z)) e.symm,rfl⟩)
  have ha2: ∀i,i<k+1→oat a.opts i=oat b.opts i:=by
   intro i hi
   rcases Nat.lt_or_ge i k with h7|h7
   ·exact ha i h7
   obtain rfl:i=k:=by omega
   exact t0A h6.1 h6.2
  refine y6 (xE (zn (zr ?_)))
  refine zB ?_
  refine zb (zJ ?_)
  refine zL _ _ _ (by omega) (⟨k+1,by omega,ha2,rfl,rfl,rfl⟩)
 have e:decide (a=b)=true:=decide_eq_true (by
  have:=t0z hl fun i hi=>ha i (by omega)
  obtain⟨⟨⟨⟨⟨e1,e2⟩,e3⟩,e4⟩,e5⟩, -⟩:=h
  obtain⟨_,_,_,_,_,_⟩:=a
  obtain⟨_,_,_,_,_,_⟩:=b
  simp_all)
 refine wj ?_
 refine x8 ?_
 refine wd ?_
 refine xD (zn (zD (zr ?_)))
 refine zc (zJ (zn (xj ?_)))
 refine vz rfl rfl nS (⟨congrArg (fun z=>AV.val (.bool z)) e.symm,rfl⟩)
abbrev i0S (r:Msg×Int):AV:= .tup [b0c r.1,.val (.int .i64 r.2)]
theorem o0i {q:AV}{r:Msg×Int}{c:Msg}{e:Int}(h:r=(c,e))(hq:q= .tup [b0c c,.val (.int .i64 e)]):Is (i0S r) q []:=by subst h;exact⟨hq,rfl⟩
end Go.Proofs.YtojomcdjcpmnkaaGreat.By
namespace Go.Proofs.YtojomcdjcpmnkaaGreat.By
open Go.RowKit L A
open Classical in
noncomputable def c0k (b:List UInt8):Msg×Int:=
 if 4096<b.length then(Msg.none,8)else if b.length<4 then(Msg.none,2)else if h: ∃m,OkM m∧raw m=b then(Classical.choose h,0)else(Msg.none,4)
theorem g0I {b:List UInt8}(h1:b.length≤4096)(h2:4≤b.length)(h: ∀m,OkM m→raw m≠b):c0k b=(Msg.none,4):=by
 unfold c0k
 rw[if_neg (by omega),if_neg (by omega),dif_neg fun⟨m,h3,h4⟩=>h m h3 h4]
theorem l0Y {b:List UInt8}{m:Msg}(h1:b.length≤4096)(h2:4≤b.length)(hm:OkM m)(hr:raw m=b)(h: ∀m0,OkM m0→raw m0=b→m0=m):c0k b=(m,0):=by
 unfold c0k
 have hx: ∃m,OkM m∧raw m=b:=⟨m,hm,hr⟩
 rw[if_neg (by omega),if_neg (by omega),dif_pos hx,h _ (Classical.choose_spec hx).1 (Classical.choose_spec hx).2]
def b0d (r:List UInt8)(bad:Bool)(n:Int):List UInt8×List UInt8×Bool:=if(r.length:Int)<n then(List.replicate (min n 4).toNat 0,r,true)else(r.take n.toNat,r.drop n.toNat,bad)
def g0n (r:List UInt8)(bad:Bool)(n:Int):Int×List UInt8×Bool:=
 if n=13 then(((bt (b0d r bad 1).1 0).toNat:Int)+13,(b0d r bad 1).2)
 else if n=14 then(((bt (b0d r bad 2).1 0).toNat:Int)*256+((bt (b0d r bad 2).1 1).toNat:Int)+269,(b0d r bad 2).2)
 else(n,r,if n=15 then true else bad)
theorem c0G (v t:List UInt8)(bad:Bool){n:Int}(h:n=v.length):b0d (v++t) bad n=(v,t,bad):=by
 subst h
 unfold b0d
 rw[if_neg (by simp;omega)]
 simp
theorem c0F (r:List UInt8)(bad:Bool)(n:Int)(h:0≤n):(b0d r bad n).2.1.length≤r.length∧((b0d r bad n).1.length:Int)≤n∧(n≤4→((b0d r bad n).1.length:Int)=n):=by
 unfold b0d
 split<;>simp<;>omega
theorem f0F {x:Int}(h:0≤x∧x≤65804)(t:List UInt8)(bad:Bool):g0n ((ext x).2++t) bad (ext x).1=(x,t,bad):=by
 unfold ext
 split
 ·unfold g0n;rw[if_neg (by simp;omega),if_neg (by simp;omega),if_neg (by simp;omega)];rfl
 split
 ·unfold g0n
  rw[if_pos rfl,c0G [u8 (x-13)] t bad (n:=1) rfl]
  have:=a0I (x:=x-13) (by omega)
  simp[bt]at this⊢
  omega
 unfold g0n
 rw[if_neg (by simp),if_pos rfl,c0G [u8 ((x-269)/256),u8 (x-269)] t bad (n:=2) rfl]
 have h1:=a0I (x:=(x-269)/256) (by omega)
 have h2:=c0r (x-269)
 simp[bt]at h1 h2⊢
 omega
theorem o0U (r:List UInt8)(bad:Bool){n:Int}(h:0≤n∧n≤15):0≤(g0n r bad n).1∧(g0n r bad n).1≤65804∧(g0n r bad n).2.1.length≤r.length:=by
 have h1:=c0F r bad 1 (by omega)
 have h2:=c0F r bad 2 (by omega)
 unfold g0n
 split
 ·have:=b0B (bt (b0d r bad 1).1 0)
  refine⟨?_,?_,h1.1⟩<;>simp only<;>omega
 split
 ·have:=b0B (bt (b0d r bad 2).1 0)
  have:=b0B (bt (b0d r bad 2).1 1)
  refine⟨?_,?_,h2.1⟩<;>simp only<;>omega
 refine⟨?_,?_,Nat.le_refl _⟩<;>simp only<;>omega
def m0o (m:Msg):List UInt8:=if m.pay= []then []else 255::m.pay
def c0U (m:Msg)(k:Nat):List UInt8:=h0m (a0R 0 (m.opts.take k)) (m.opts.drop k)++m0o m
theorem o0j (m:Msg):raw m=g0t m++(m.tok++c0U m 0):=by simp[raw,c0U,m0o,a0R]
theorem l0v {m:Msg}{k:Nat}(h:m.opts.length≤k):c0U m k=m0o m:=by simp[c0U,List.drop_eq_nil_of_le h,h0m]
theorem g0f {m:Msg}{k:Nat}(h:k<m.opts.length):c0U m k=u8 (16*(ext ((oat m.opts k).num-a0R 0 (m.opts.take k))).1+(ext ((oat m.opts k).val.length:Int)).1)::((ext ((oat m.opts k).num-a0R 0 (m.opts.take k))).2++((ext ((oat m.opts k).val.length:Int)).2++((oat m.opts k).val++c0U m (k+1)))):=by
 rw[c0U,j0B Opt.none h,h0m,hdr,c0U,a0i Opt.none h,b0r]
 simp
def Fits (b:List UInt8)(opts:List Opt)(last:Int)(r:List UInt8)(bad:Bool):Prop:=
 ∀m,OkM m→raw m=b→bad=false∧opts.length≤m.opts.length∧r=c0U m opts.length∧last=a0R 0 opts∧opts=m.opts.take opts.length
theorem Fits.more {b:List UInt8}{opts:List Opt}{last:Int}{r:List UInt8}{bad:Bool}(h:Fits b opts last r bad){m:Msg}(hm:OkM m)(hr:raw m=b)(h1:r≠ [])(h2:bt r 0≠255):opts.length<m.opts.length:=by
 obtain⟨-,h3,h4, -, -⟩:=h m hm hr
 rcases Nat.lt_or_ge opts.length m.opts.length with h5|h5
 ·exact h5
 rw[l0v h5,m0o]at h4
 split at h4
 ·exact absurd h4 h1
 subst h4;exact absurd rfl h2
theorem Fits.ends {b:List UInt8}{opts:List Opt}{last:Int}{r:List UInt8}{bad:Bool}(h:Fits b opts last r bad){m:Msg}(hm:OkM m)(hr:raw m=b)(h1:bad=true∨r= []∨bt r 0=255):bad=false∧opts=m.opts∧r=m0o m:=by
 obtain⟨h0,h3,h4,h6,h7⟩:=h m hm hr
 rcases Nat.lt_or_ge opts.length m.opts.length with h5|h5
 ·rw[g0f h5]at h4
  have h8:=d0B hm.2.2.1 h5
  have h9:=e0v (c0l hm.2.2.1 opts.length) (by omega)
  have e1:=c0v ((oat m.opts opts.length).num-a0R 0 (m.opts.take opts.length)) (by omega)
  have e2:=c0v ((oat m.opts opts.length).val.length:Int) (by omega)
  rcases h1 with h1|h1|h1
  ·rw[h0]at h1;cases h1
  ·rw[h1]at h4;cases h4
  have e3:=a0I (x:=16*(ext ((oat m.opts opts.length).num-a0R 0 (m.opts.take opts.length))).1+(ext ((oat m.opts opts.length).val.length:Int)).1) (by omega)
  rw[h4]at h1
  have h1':u8 (16*(ext ((oat m.opts opts.length).num-a0R 0 (m.opts.take opts.length))).1+(ext ((oat m.opts opts.length).val.length:Int)).1)=255:=h1
  rw[h1']at e3
  have:((255:UInt8).toNat:Int)=255:=rfl
  omega
 refine⟨h0,?_,?_⟩
 ·rw[List.take_of_length_le h5]at h7;exact h7
 rw[l0v h5]at h4;exact h4
theorem Fits.parts {b:List UInt8}{opts:List Opt}{last:Int}{r:List UInt8}{bad:Bool}(h:Fits b opts last r bad){m:Msg}(hm:OkM m)(hr:raw m=b)(h1:r≠ [])(h2:bt r 0≠255):
  ∃o d n,opts.length<m.opts.length∧o=oat m.opts opts.length∧d=o.num-last∧n=(o.val.length:Int)∧0≤d∧d≤65535∧n≤1034∧((bt r 0).toNat:Int)=16*(ext d).1+(ext n).1∧r.drop 1=(ext d).2++((ext n).2++(o.val++c0U m (opts.length+1))):=by
 have h5:=h.more hm hr h1 h2
 obtain⟨h0,h3,h4,h6,h7⟩:=h m hm hr
 rw[g0f h5,←h7,←h6]at h4
 have h8:=d0B hm.2.2.1 h5
 have h9:=e0v (c0l hm.2.2.1 opts.length) (by omega)
 rw[←h7,←h6]at h8 h9
 have e1:=c0v ((oat m.opts opts.length).num-last) (by omega)
 have e2:=c0v ((oat m.opts opts.length).val.length:Int) (by omega)
 refine⟨_,_,_,h5,rfl,rfl,rfl,by omega,by omega,by omega,?_,by rw[h4];rfl⟩
 rw[h4]
 exact a0I (by omega)
theorem Fits.step {b:List UInt8}{opts:List Opt}{last:Int}{r r1 r2 r3:List UInt8}{b1 b2 b3:Bool}{v1 v2:Int}{x:List UInt8}(h:Fits b opts last r false)(h1:r≠ [])(h2:bt r 0≠255)
  (e1:g0n (r.drop 1) false (((bt r 0).toNat:Int)/16)=(v1,r1,b1)) (e2:g0n r1 b1 (((bt r 0).toNat:Int)%16)=(v2,r2,b2)) (e3:b0d r2 b2 v2=(x,r3,b3)):Fits b (opts++[⟨last+v1,x⟩]) (last+v1) r3 b3:=fun m hm hr=>by
 obtain⟨o,d,n,h5,h6,h7,h8,h9,h10,h11,h12,h13⟩:=h.parts hm hr h1 h2
 obtain⟨-, -, -,h16,h17⟩:=h m hm hr
 have q1:=c0v d h9
 have q2:=c0v n (by omega)
 rw[h12,show(16*(ext d).1+(ext n).1)/16=(ext d).1 by omega,h13,f0F (by omega)]at e1
 simp only[Prod.mk.injEq]at e1
 obtain⟨e11,e12,e13⟩:=e1
 subst e12;subst e13
 rw[h12,show(16*(ext d).1+(ext n).1)%16=(ext n).1 by omega,f0F (by omega)]at e2
 simp only[Prod.mk.injEq]at e2
 obtain⟨e21,e22,e23⟩:=e2
 subst e22;subst e23
 rw[c0G _ _ _ (e21.symm.trans h8)]at e3
 simp only[Prod.mk.injEq]at e3
 obtain⟨e31,e32,e33⟩:=e3
 subst e31;subst e32;subst e33
 have hl:last+v1=o.num:=by omega
 refine⟨rfl,by simp;omega,by simp,by rw[b0r],?_⟩
 rw[cH,List.length_singleton,a0i Opt.none h5,←h17,hl,h6]
theorem Fits.start {b:List UInt8}:(∀m,OkM m→raw m=b→((bt b 0).toNat:Int)=64+16*m.ty+m.tok.length∧((bt b 1).toNat:Int)=m.code∧((bt b 2).toNat:Int)=m.id/256∧((bt b 3).toNat:Int)=m.id%256∧b.drop 4=m.tok++c0U m 0):=fun m hm hr=>by
 have h1:=hm.1
 have h2:=hm.2.1
 subst hr
 rw[o0j]
 refine⟨a0I (by omega),a0I (by omega),a0I (by omega),c0r _,rfl⟩
theorem Fits.first {b x r:List UInt8}{bad:Bool}(e:b0d (b.drop 4) false (((bt b 0).toNat:Int)%16)=(x,r,bad)):Fits b [] 0 r bad∧ ∀m,OkM m→raw m=b→x=m.tok:=by
 have key: ∀m,OkM m→raw m=b→x=m.tok∧r=c0U m 0∧bad=false:=fun m hm hr=>by
  obtain⟨h1, -, -, -,h5⟩:=Fits.start m hm hr
  have h2:=hm.2.1
  rw[h1,h5,c0G _ _ _ (by omega)]at e
  cases e
  exact⟨rfl,rfl,rfl⟩
 exact⟨fun m hm hr=>⟨(key m hm hr).2.2,Nat.zero_le _,(key m hm hr).2.1,rfl,rfl⟩,fun m hm hr=>(key m hm hr).1⟩
theorem Fits.all {b x r:List UInt8}{opts:List Opt}{last:Int}{bad:Bool}(h:Fits b opts last r bad)(hx: ∀m,OkM m→raw m=b→x=m.tok)(h1:bad=true∨r= []∨bt r 0=255){pay:List UInt8}(hp:pay=r.drop 1){ty code id:Int}
  (hty:ty=((bt b 0).toNat:Int)/16%4) (hcode:code=((bt b 1).toNat:Int)) (hid:id=((bt b 2).toNat:Int)*256+((bt b 3).toNat:Int)): ∀m,OkM m→raw m=b→bad=false∧m=⟨ty,code,id,x,opts,pay⟩:=fun m hm hr=>by
 obtain⟨g1,g2,g3,g4, -⟩:=Fits.start m hm hr
 obtain⟨h3,h4,h5⟩:=h.ends hm hr h1
 have q1:=hm.1
 have q2:=hm.2.1
 have hpay:pay=m.pay:=by
  rw[hp,h5,m0o]
  split
  ·rename_i e;rw[e];rfl
  rfl
 refine⟨h3,?_⟩
 obtain⟨ty',code',id',tok',opts',pay'⟩:=m
 simp only at g1 g2 g3 g4 q1 q2 h4 hpay
 have:=hx _ hm hr
 simp only at this
 subst this;subst h4;subst hpay
 rw[Msg.mk.injEq]
 refine⟨by omega,by omega,by omega,rfl,rfl,rfl⟩
theorem Fits.own {m:Msg}(hm:OkM m): ∀k,k≤m.opts.length→Fits (raw m) (m.opts.take k) (a0R 0 (m.opts.take k)) (c0U m k) false
 | 0,_=>by
  have h1:=hm.1
  have h2:=hm.2.1
  have e0:((bt (raw m) 0).toNat:Int)=64+16*m.ty+m.tok.length:=(Fits.start m hm rfl).1
  have e:b0d ((raw m).drop 4) false (((bt (raw m) 0).toNat:Int)%16)=(m.tok,c0U m 0,false):=by
   rw[(Fits.start m hm rfl).2.2.2.2,c0G _ _ _ (by omega)]
  exact(Fits.first e).1
 | k+1,h=>by
  have ih:=Fits.own hm k (by omega)
  have h5:k<m.opts.length:=by omega
  have h8:=d0B hm.2.2.1 h5
  have h9:=e0v (c0l hm.2.2.1 k) (by omega)
  have hr:=g0f (m:=m) h5
  generalize hd:(oat m.opts k).num-a0R 0 (m.opts.take k)=d at hr
  generalize hn:((oat m.opts k).val.length:Int)=n at hr
  have e1:=c0v d (by omega)
  have e2:=c0v n (by omega)
  have hb:bt (c0U m k) 0=u8 (16*(ext d).1+(ext n).1):=by rw[hr];rfl
  have hu:=a0I (x:=16*(ext d).1+(ext n).1) (by omega)
  have s:=ih.step (v1:=d) (r1:=(ext n).2++((oat m.opts k).val++c0U m (k+1))) (b1:=false) (v2:=n) (r2:=(oat m.opts k).val++c0U m (k+1)) (b2:=false) (x:=(oat m.opts k).val) (r3:=c0U m (k+1)) (b3:=false)
   (by rw[hr];simp) (fun e=>by
    rw[hb]at e
    rw[e]at hu
    have:((255:UInt8).toNat:Int)=255:=rfl
    omega)
   (by rw[hb,hu,show(16*(ext d).1+(ext n).1)/16=(ext d).1 by omega,hr];exact f0F (by omega) _ _)
   (by rw[hb,hu,show(16*(ext d).1+(ext n).1)%16=(ext n).1 by omega];exact f0F (by omega) _ _)
   (c0G _ _ _ hn.symm)
  rw[show a0R 0 (m.opts.take k)+d=(oat m.opts k).num by omega]at s
  rw[a0i Opt.none h5,b0r]
  exact s
theorem p0v {b:List UInt8}(h:(c0k b).2=0):ValM (c0k b).1∧raw (c0k b).1=b:=by
 unfold c0k at h⊢
 split at h
 ·cases h
 split at h
 ·cases h
 split at h
 ·rename_i h1 h2 h3
  rw[if_neg h1,if_neg h2,dif_pos h3]
  have:=Classical.choose_spec h3
  exact⟨⟨this.1,by rw[this.2];omega⟩,this.2⟩
 cases h
attribute [local irreducible] AW AQ AO
def cls (n:Int):Int:=
 if n=3∨n=7∨n=9∨n=16∨n=35∨n=39 then 2
 else if n=6∨n=14∨n=23∨n=27∨n=28∨n=60∨n=252∨n=258∨n=292 then 3 else 1
theorem i0v (n:Int):Sp Tryz.prog 154 [.val (.int .i64 n)] [] (Is (.val (.int .i64 (cls n)))):=by
 refine yX Tryz.func154 _ Tryz.ntmps154 (fun w0 R0=> ?_)
 refine zD (zr ?_)
 refine zc (zJ (zn (zD (zD (zr ?_)))))
 refine zb (zJ (zn (xo (zD (zD (zr ?_))))))
 refine z8 ?_
 refine zc (zJ (zn ?_))
 refine xY [(3,_)] (fun E H=> ∃(c40:Bool),(c40=decide (n=3∨n=7∨n=9∨n=16∨n=35∨n=39))∧E= [(4,.val (.bool c40))]∧H= []) (fun h40=> ?_) (fun h40=> ?_) ?_<;>try(try simp only[vT]at h40)
 ·refine y6 ?_
  refine yE _ _ (⟨n==3,by simp[h40],rfl,rfl⟩)
 ·refine zD (zr ?_)
  refine z8 ?_
  refine zc (zJ (zn ?_))
  refine xY [(3,_)] (fun E H=> ∃(c41:Bool),(c41=decide (n=7∨n=9∨n=16∨n=35∨n=39))∧E= [(4,.val (.bool c41))]∧H= []) (fun h41=> ?_) (fun h41=> ?_) ?_<;>try(try simp only[vT]at h41)
  ·refine y6 ?_
   refine yE _ _ (⟨n==7,by simp[h41],rfl,rfl⟩)
  ·refine zD (zr ?_)
   refine z8 ?_
   refine zc (zJ (zn ?_))
   refine xY [(3,_)] (fun E H=> ∃(c42:Bool),(c42=decide (n=9∨n=16∨n=35∨n=39))∧E= [(4,.val (.bool c42))]∧H= []) (fun h42=> ?_) (fun h42=> ?_) ?_<;>try(try simp only[vT]at h42)
   ·refine y6 ?_
    refine yE _ _ (⟨n==9,by simp[h42],rfl,rfl⟩)
   ·refine zD (zr ?_)
    refine z8 ?_
    refine zc (zJ (zn ?_))
    refine xY [(3,_)] (fun E H=> ∃(c43:Bool),(c43=decide (n=16∨n=35∨n=39))∧E= [(4,.val (.bool c43))]∧H= []) (fun h43=> ?_) (fun h43=> ?_) ?_<;>try(try simp only[vT]at h43)
    ·refine y6 ?_
     refine yE _ _ (⟨n==16,by simp[h43],rfl,rfl⟩)
    ·refine zD (zr ?_)
     refine z8 ?_
     refine zc (zJ (zn ?_))
     refine xY [(3,_)] (fun E H=> ∃(c44:Bool),(c44=decide (n=35∨n=39))∧E= [(4,.val (.bool c44))]∧H= []) (fun h44=> ?_) (fun h44=> ?_) ?_<;>try(try simp only[vT]at h44)
     ·refine y6 ?_
      refine yE _ _ (⟨n==35,by simp[h44],rfl,rfl⟩)
     ·refine zr ?_
      refine z8 ?_
      refine zc (zJ ?_)
      refine yE _ _ (⟨n==39,by rw[Bool.eq_iff_iff];simp[h44],rfl,rfl⟩)
     rintro E1 H1 ⟨c44,hc44,rfl,rfl⟩
     dsimp only[cA,cN]
     refine yE _ _ (⟨c44,by rw[hc44];simp only[h43,false_or],rfl,rfl⟩)
    rintro E1 H1 ⟨c43,hc43,rfl,rfl⟩
    dsimp only[cA,cN]
    refine yE _ _ (⟨c43,by rw[hc43];simp only[h42,false_or],rfl,rfl⟩)
   rintro E1 H1 ⟨c42,hc42,rfl,rfl⟩
   dsimp only[cA,cN]
   refine yE _ _ (⟨c42,by rw[hc42];simp only[h41,false_or],rfl,rfl⟩)
  rintro E1 H1 ⟨c41,hc41,rfl,rfl⟩
  dsimp only[cA,cN]
  refine yE _ _ (⟨c41,by rw[hc41];simp only[h40,false_or],rfl,rfl⟩)
 rintro E1 H1 ⟨c40,hc40,rfl,rfl⟩
 dsimp only[cA,cN]
 refine zn ?_
 refine yt (fun ha=> ?_) (fun ha=> ?_)<;>(try simp only[vT]at ha)
 ·rw[hc40]at ha
  have e:cls n=2:=if_pos (by simpa using ha)
  refine zD (zr ?_)
  refine zc (zJ (zn (xj ?_)))
  refine ww (xx ?_)
  refine vz rfl rfl nS (⟨by rw[e];rfl,rfl⟩)
 rw[hc40]at ha
 refine zD (zD (zr ?_))
 refine z8 ?_
 refine zc (zJ (zn ?_))
 refine vh [] (fun E H=> ∃(c110:Bool),(c110=decide (n=6∨n=14∨n=23∨n=27∨n=28∨n=60∨n=252∨n=258∨n=292))∧E= [(11,.val (.bool c110))]∧H= []) (fun h110=> ?_) (fun h110=> ?_) ?_<;>try(try simp only[vT]at h110)
 ·refine y6 ?_
  refine yc _ _ (⟨n==6,by simp[h110],rfl,rfl⟩)
 ·refine zD (zr ?_)
  refine z8 ?_
  refine zc (zJ (zn ?_))
  refine vh [] (fun E H=> ∃(c111:Bool),(c111=decide (n=14∨n=23∨n=27∨n=28∨n=60∨n=252∨n=258∨n=292))∧E= [(11,.val (.bool c111))]∧H= []) (fun h111=> ?_) (fun h111=> ?_) ?_<;>try(try simp only[vT]at h111)
  ·refine y6 ?_
   refine yc _ _ (⟨n==14,by simp[h111],rfl,rfl⟩)
  ·refine zD (zr ?_)
   refine z8 ?_
   refine zc (zJ (zn ?_))
   refine vh [] (fun E H=> ∃(c112:Bool),(c112=decide (n=23∨n=27∨n=28∨n=60∨n=252∨n=258∨n=292))∧E= [(11,.val (.bool c112))]∧H= []) (fun h112=> ?_) (fun h112=> ?_) ?_<;>try(try simp only[vT]at h112)
   ·refine y6 ?_
    refine yc _ _ (⟨n==23,by simp[h112],rfl,rfl⟩)
   ·refine zD (zr ?_)
    refine z8 ?_
    refine zc (zJ (zn ?_))
    refine vh [] (fun E H=> ∃(c113:Bool),(c113=decide (n=27∨n=28∨n=60∨n=252∨n=258∨n=292))∧E= [(11,.val (.bool c113))]∧H= []) (fun h113=> ?_) (fun h113=> ?_) ?_<;>try(try simp only[vT]at h113)
    ·refine y6 ?_
     refine yc _ _ (⟨n==27,by simp[h113],rfl,rfl⟩)
    ·refine zD (zr ?_)
     refine z8 ?_
     refine zc (zJ (zn ?_))
     refine vh [] (fun E H=> ∃(c114:Bool),(c114=decide (n=28∨n=60∨n=252∨n=258∨n=292))∧E= [(11,.val (.bool c114))]∧H= []) (fun h114=> ?_) (fun h114=> ?_) ?_<;>try(try simp only[vT]at h114)
     ·refine y6 ?_
      refine yc _ _ (⟨n==28,by simp[h114],rfl,rfl⟩)
     ·refine zD (zr ?_)
      refine z8 ?_
      refine zc (zJ (zn ?_))
      refine vh [] (fun E H=> ∃(c115:Bool),(c115=decide (n=60∨n=252∨n=258∨n=292))∧E= [(11,.val (.bool c115))]∧H= []) (fun h115=> ?_) (fun h115=> ?_) ?_<;>try(try simp only[vT]at h115)
      ·refine y6 ?_
       refine yc _ _ (⟨n==60,by simp[h115],rfl,rfl⟩)
      ·refine zD (zr ?_)
       refine z8 ?_
       refine zc (zJ (zn ?_))
       refine vh [] (fun E H=> ∃(c116:Bool),(c116=decide (n=252∨n=258∨n=292))∧E= [(11,.val (.bool c116))]∧H= []) (fun h116=> ?_) (fun h116=> ?_) ?_<;>try(try simp only[vT]at h116)
       ·refine y6 ?_
        refine yc _ _ (⟨n==252,by simp[h116],rfl,rfl⟩)
       ·refine zD (zr ?_)
        refine z8 ?_
        refine zc (zJ (zn ?_))
        refine vh [] (fun E H=> ∃(c117:Bool),(c117=decide (n=258∨n=292))∧E= [(11,.val (.bool c117))]∧H= []) (fun h117=> ?_) (fun h117=> ?_) ?_<;>try(try simp only[vT]at h117)
        ·refine y6 ?_
         refine yc _ _ (⟨n==258,by simp[h117],rfl,rfl⟩)
        ·refine zr ?_
         refine z8 ?_
         refine zc (zJ ?_)
         refine yc _ _ (⟨n==292,by rw[Bool.eq_iff_iff];simp[h117],rfl,rfl⟩)
        rintro E1 H1 ⟨c117,hc117,rfl,rfl⟩
        dsimp only[cA,cN]
        refine yc _ _ (⟨c117,by rw[hc117];simp only[h116,false_or],rfl,rfl⟩)
       rintro E1 H1 ⟨c116,hc116,rfl,rfl⟩
       dsimp only[cA,cN]
       refine yc _ _ (⟨c116,by rw[hc116];simp only[h115,false_or],rfl,rfl⟩)
      rintro E1 H1 ⟨c115,hc115,rfl,rfl⟩
      dsimp only[cA,cN]
      refine yc _ _ (⟨c115,by rw[hc115];simp only[h114,false_or],rfl,rfl⟩)
     rintro E1 H1 ⟨c114,hc114,rfl,rfl⟩
     dsimp only[cA,cN]
     refine yc _ _ (⟨c114,by rw[hc114];simp only[h113,false_or],rfl,rfl⟩)
    rintro E1 H1 ⟨c113,hc113,rfl,rfl⟩
    dsimp only[cA,cN]
    refine yc _ _ (⟨c113,by rw[hc113];simp only[h112,false_or],rfl,rfl⟩)
   rintro E1 H1 ⟨c112,hc112,rfl,rfl⟩
   dsimp only[cA,cN]
   refine yc _ _ (⟨c112,by rw[hc112];simp only[h111,false_or],rfl,rfl⟩)
  rintro E1 H1 ⟨c111,hc111,rfl,rfl⟩
  dsimp only[cA,cN]
  refine yc _ _ (⟨c111,by rw[hc111];simp only[h110,false_or],rfl,rfl⟩)
 rintro E1 H1 ⟨c110,hc110,rfl,rfl⟩
 dsimp only[cA,cN]
 refine zn ?_
 refine yt (fun hb=> ?_) (fun hb=> ?_)<;>(try simp only[vT]at hb)
 ·rw[hc110]at hb
  have e:cls n=3:=(if_neg (by simpa using ha)).trans (if_pos (by simpa using hb))
  refine zD (zr ?_)
  refine zc (zJ (zn (xj ?_)))
  refine ww (xx ?_)
  refine vz rfl rfl nS (⟨by rw[e];rfl,rfl⟩)
 rw[hc110]at hb
 have e:cls n=1:=(if_neg (by simpa using ha)).trans (if_neg (by simpa using hb))
 refine y6 (xE (zn (zD (zr ?_))))
 refine zc (zJ (zn (xj ?_)))
 refine vz rfl rfl nS (⟨by rw[e];rfl,rfl⟩)
theorem g0g (n:Int):Sp Tryz.prog 121 [.val (.int .i64 n)] [] (Is (.val (.int .i64 (cls n)))):=by
 refine yX Tryz.func121 _ Tryz.ntmps121 (fun w0 R0=> ?_)
 refine zD (zr ?_)
 refine zc (zJ (zn (zD (zD (zr ?_)))))
 refine zb (zJ (zn (xo (zD (zD (zr ?_))))))
 refine z8 ?_
 refine zc (zJ (zn ?_))
 refine xY [(3,_)] (fun E H=> ∃(c40:Bool),(c40=decide (n=3∨n=7∨n=9∨n=16∨n=35∨n=39))∧E= [(4,.val (.bool c40))]∧H= []) (fun h40=> ?_) (fun h40=> ?_) ?_<;>try(try simp only[vT]at h40)
 ·refine y6 ?_
  refine yE _ _ (⟨n==3,by simp[h40],rfl,rfl⟩)
 ·refine zD (zr ?_)
  refine z8 ?_
  refine zc (zJ (zn ?_))
  refine xY [(3,_)] (fun E H=> ∃(c41:Bool),(c41=decide (n=7∨n=9∨n=16∨n=35∨n=39))∧E= [(4,.val (.bool c41))]∧H= []) (fun h41=> ?_) (fun h41=> ?_) ?_<;>try(try simp only[vT]at h41)
  ·refine y6 ?_
   refine yE _ _ (⟨n==7,by simp[h41],rfl,rfl⟩)
  ·refine zD (zr ?_)
   refine z8 ?_
   refine zc (zJ (zn ?_))
   refine xY [(3,_)] (fun E H=> ∃(c42:Bool),(c42=decide (n=9∨n=16∨n=35∨n=39))∧E= [(4,.val (.bool c42))]∧H= []) (fun h42=> ?_) (fun h42=> ?_) ?_<;>try(try simp only[vT]at h42)
   ·refine y6 ?_
    refine yE _ _ (⟨n==9,by simp[h42],rfl,rfl⟩)
   ·refine zD (zr ?_)
    refine z8 ?_
    refine zc (zJ (zn ?_))
    refine xY [(3,_)] (fun E H=> ∃(c43:Bool),(c43=decide (n=16∨n=35∨n=39))∧E= [(4,.val (.bool c43))]∧H= []) (fun h43=> ?_) (fun h43=> ?_) ?_<;>try(try simp only[vT]at h43)
    ·refine y6 ?_
     refine yE _ _ (⟨n==16,by simp[h43],rfl,rfl⟩)
    ·refine zD (zr ?_)
     refine z8 ?_
     refine zc (zJ (zn ?_))
     refine xY [(3,_)] (fun E H=> ∃(c44:Bool),(c44=decide (n=35∨n=39))∧E= [(4,.val (.bool c44))]∧H= []) (fun h44=> ?_) (fun h44=> ?_) ?_<;>try(try simp only[vT]at h44)
     ·refine y6 ?_
      refine yE _ _ (⟨n==35,by simp[h44],rfl,rfl⟩)
     ·refine zr ?_
      refine z8 ?_
      refine zc (zJ ?_)
      refine yE _ _ (⟨n==39,by rw[Bool.eq_iff_iff];simp[h44],rfl,rfl⟩)
     rintro E1 H1 ⟨c44,hc44,rfl,rfl⟩
     dsimp only[cA,cN]
     refine yE _ _ (⟨c44,by rw[hc44];simp only[h43,false_or],rfl,rfl⟩)
    rintro E1 H1 ⟨c43,hc43,rfl,rfl⟩
    dsimp only[cA,cN]
    refine yE _ _ (⟨c43,by rw[hc43];simp only[h42,false_or],rfl,rfl⟩)
   rintro E1 H1 ⟨c42,hc42,rfl,rfl⟩
   dsimp only[cA,cN]
   refine yE _ _ (⟨c42,by rw[hc42];simp only[h41,false_or],rfl,rfl⟩)
  rintro E1 H1 ⟨c41,hc41,rfl,rfl⟩
  dsimp only[cA,cN]
  refine yE _ _ (⟨c41,by rw[hc41];simp only[h40,false_or],rfl,rfl⟩)
 rintro E1 H1 ⟨c40,hc40,rfl,rfl⟩
 dsimp only[cA,cN]
 refine zn ?_
 refine yt (fun ha=> ?_) (fun ha=> ?_)<;>(try simp only[vT]at ha)
 ·rw[hc40]at ha
  have e:cls n=2:=if_pos (by simpa using ha)
  refine zD (zr ?_)
  refine zc (zJ (zn (xj ?_)))
  refine ww (xx ?_)
  refine vz rfl rfl nS (⟨by rw[e];rfl,rfl⟩)
 rw[hc40]at ha
 refine zD (zD (zr ?_))
 refine z8 ?_
 refine zc (zJ (zn ?_))
 refine vh [] (fun E H=> ∃(c110:Bool),(c110=decide (n=6∨n=14∨n=23∨n=27∨n=28∨n=60∨n=252∨n=258∨n=292))∧E= [(11,.val (.bool c110))]∧H= []) (fun h110=> ?_) (fun h110=> ?_) ?_<;>try(try simp only[vT]at h110)
 ·refine y6 ?_
  refine yc _ _ (⟨n==6,by simp[h110],rfl,rfl⟩)
 ·refine zD (zr ?_)
  refine z8 ?_
  refine zc (zJ (zn ?_))
  refine vh [] (fun E H=> ∃(c111:Bool),(c111=decide (n=14∨n=23∨n=27∨n=28∨n=60∨n=252∨n=258∨n=292))∧E= [(11,.val (.bool c111))]∧H= []) (fun h111=> ?_) (fun h111=> ?_) ?_<;>try(try simp only[vT]at h111)
  ·refine y6 ?_
   refine yc _ _ (⟨n==14,by simp[h111],rfl,rfl⟩)
  ·refine zD (zr ?_)
   refine z8 ?_
   refine zc (zJ (zn ?_))
   refine vh [] (fun E H=> ∃(c112:Bool),(c112=decide (n=23∨n=27∨n=28∨n=60∨n=252∨n=258∨n=292))∧E= [(11,.val (.bool c112))]∧H= []) (fun h112=> ?_) (fun h112=> ?_) ?_<;>try(try simp only[vT]at h112)
   ·refine y6 ?_
    refine yc _ _ (⟨n==23,by simp[h112],rfl,rfl⟩)
   ·refine zD (zr ?_)
    refine z8 ?_
    refine zc (zJ (zn ?_))
    refine vh [] (fun E H=> ∃(c113:Bool),(c113=decide (n=27∨n=28∨n=60∨n=252∨n=258∨n=292))∧E= [(11,.val (.bool c113))]∧H= []) (fun h113=> ?_) (fun h113=> ?_) ?_<;>try(try simp only[vT]at h113)
    ·refine y6 ?_
     refine yc _ _ (⟨n==27,by simp[h113],rfl,rfl⟩)
    ·refine zD (zr ?_)
     refine z8 ?_
     refine zc (zJ (zn ?_))
     refine vh [] (fun E H=> ∃(c114:Bool),(c114=decide (n=28∨n=60∨n=252∨n=258∨n=292))∧E= [(11,.val (.bool c114))]∧H= []) (fun h114=> ?_) (fun h114=> ?_) ?_<;>try(try simp only[vT]at h114)
     ·refine y6 ?_
      refine yc _ _ (⟨n==28,by simp[h114],rfl,rfl⟩)
     ·refine zD (zr ?_)
      refine z8 ?_
      refine zc (zJ (zn ?_))
      refine vh [] (fun E H=> ∃(c115:Bool),(c115=decide (n=60∨n=252∨n=258∨n=292))∧E= [(11,.val (.bool c115))]∧H= []) (fun h115=> ?_) (fun h115=> ?_) ?_<;>try(try simp only[vT]at h115)
      ·refine y6 ?_
       refine yc _ _ (⟨n==60,by simp[h115],rfl,rfl⟩)
      ·refine zD (zr ?_)
       refine z8 ?_
       refine zc (zJ (zn ?_))
       refine vh [] (fun E H=> ∃(c116:Bool),(c116=decide (n=252∨n=258∨n=292))∧E= [(11,.val (.bool c116))]∧H= []) (fun h116=> ?_) (fun h116=> ?_) ?_<;>try(try simp only[vT]at h116)
       ·refine y6 ?_
        refine yc _ _ (⟨n==252,by simp[h116],rfl,rfl⟩)
       ·refine zD (zr ?_)
        refine z8 ?_
        refine zc (zJ (zn ?_))
        refine vh [] (fun E H=> ∃(c117:Bool),(c117=decide (n=258∨n=292))∧E= [(11,.val (.bool c117))]∧H= []) (fun h117=> ?_) (fun h117=> ?_) ?_<;>try(try simp only[vT]at h117)
        ·refine y6 ?_
         refine yc _ _ (⟨n==258,by simp[h117],rfl,rfl⟩)
        ·refine zr ?_
         refine z8 ?_
         refine zc (zJ ?_)
         refine yc _ _ (⟨n==292,by rw[Bool.eq_iff_iff];simp[h117],rfl,rfl⟩)
        rintro E1 H1 ⟨c117,hc117,rfl,rfl⟩
        dsimp only[cA,cN]
        refine yc _ _ (⟨c117,by rw[hc117];simp only[h116,false_or],rfl,rfl⟩)
       rintro E1 H1 ⟨c116,hc116,rfl,rfl⟩
       dsimp only[cA,cN]
       refine yc _ _ (⟨c116,by rw[hc116];simp only[h115,false_or],rfl,rfl⟩)
      rintro E1 H1 ⟨c115,hc115,rfl,rfl⟩
      dsimp only[cA,cN]
      refine yc _ _ (⟨c115,by rw[hc115];simp only[h114,false_or],rfl,rfl⟩)
     rintro E1 H1 ⟨c114,hc114,rfl,rfl⟩
     dsimp only[cA,cN]
     refine yc _ _ (⟨c114,by rw[hc114];simp only[h113,false_or],rfl,rfl⟩)
    rintro E1 H1 ⟨c113,hc113,rfl,rfl⟩
    dsimp only[cA,cN]
    refine yc _ _ (⟨c113,by rw[hc113];simp only[h112,false_or],rfl,rfl⟩)
   rintro E1 H1 ⟨c112,hc112,rfl,rfl⟩
   dsimp only[cA,cN]
   refine yc _ _ (⟨c112,by rw[hc112];simp only[h111,false_or],rfl,rfl⟩)
  rintro E1 H1 ⟨c111,hc111,rfl,rfl⟩
  dsimp only[cA,cN]
  refine yc _ _ (⟨c111,by rw[hc111];simp only[h110,false_or],rfl,rfl⟩)
 rintro E1 H1 ⟨c110,hc110,rfl,rfl⟩
 dsimp only[cA,cN]
 refine zn ?_
 refine yt (fun hb=> ?_) (fun hb=> ?_)<;>(try simp only[vT]at hb)
 ·rw[hc110]at hb
  have e:cls n=3:=(if_neg (by simpa using ha)).trans (if_pos (by simpa using hb))
  refine zD (zr ?_)
  refine zc (zJ (zn (xj ?_)))
  refine ww (xx ?_)
  refine vz rfl rfl nS (⟨by rw[e];rfl,rfl⟩)
 rw[hc110]at hb
 have e:cls n=1:=(if_neg (by simpa using ha)).trans (if_neg (by simpa using hb))
 refine y6 (xE (zn (zD (zr ?_))))
 refine zc (zJ (zn (xj ?_)))
 refine vz rfl rfl nS (⟨by rw[e];rfl,rfl⟩)
def rq (c:Int):Bool:=decide (1≤c)&&decide (c≤31)
def rs (c:Int):Bool:=decide (64≤c)
theorem d0n (c:Int):Sp Tryz.prog 152 [.val (.int .i64 c)] [] (Is (.val (.bool (rq c)))):=by
 refine yX Tryz.func152 _ Tryz.ntmps152 (fun w0 R0=> ?_)
 refine zD (zr ?_)
 refine zc (zJ (zn (zD (zr ?_))))
 refine zb ?_
 refine wX ?_
 refine zb ?_
 refine yC ?_
 refine xJ 6 ?_
 refine zW ?_
 refine zc (zJ (zn (xj ?_)))
 refine yM
theorem b0N (c:Int):Sp Tryz.prog 63 [.val (.int .i64 c)] [] (Is (.val (.bool (rq c)))):=by
 refine yX Tryz.func63 _ Tryz.ntmps63 (fun w0 R0=> ?_)
 refine zD (zr ?_)
 refine zc (zJ (zn (zD (zr ?_))))
 refine zb ?_
 refine wX ?_
 refine zb ?_
 refine yC ?_
 refine xJ 6 ?_
 refine zW ?_
 refine zc (zJ (zn (xj ?_)))
 refine yM
theorem c0R (c:Int):Sp Tryz.prog 153 [.val (.int .i64 c)] [] (Is (.val (.bool (rs c)))):=by
 refine yX Tryz.func153 _ Tryz.ntmps153 (fun w0 R0=> ?_)
 refine zD (zr ?_)
 refine zc (zJ (zn (zD (zr ?_))))
 refine zb ?_
 refine wX ?_
 refine zc (zJ (zn (xj ?_)))
 refine yM
theorem c0e (c:Int):Sp Tryz.prog 83 [.val (.int .i64 c)] [] (Is (.val (.bool (rs c)))):=by
 refine yX Tryz.func83 _ Tryz.ntmps83 (fun w0 R0=> ?_)
 refine zD (zr ?_)
 refine zc (zJ (zn (zD (zr ?_))))
 refine zb ?_
 refine wX ?_
 refine zc (zJ (zn (xj ?_)))
 refine yM
theorem e0B (o:Opt)(h:o.val.length≤140737488355328):Sp Tryz.prog 155 [x0G o] [] (Is (x0G o)):=by
 refine yX Tryz.func155 _ Tryz.ntmps155 (fun w0 R0=> ?_)
 refine zD (zr ?_)
 refine yo ?_
 intro B1
 refine yh ?_
 intro B2
 refine zJ (zn (zD ?_))
 refine yA 5 ?_
 simp only[cT,cZ,cD,cO]
 refine yw ?_
 refine zM ?_
 refine yw ?_
 refine zM ?_
 refine we ?_
 refine vb ?_
 simp only[a0h,cN,cA,cP]
 rintro _ _ ⟨V3,rfl,hV3,rfl⟩
 simp only[cA,cN]
 refine AO.g ?_
 refine yQ 0 [7] ?_
 refine AO.u ?_
 dsimp only[List.map,List.eraseIdx,cA,cN]
 refine zP ?_
 refine zo 0 (zJ (zn (xj ?_)))
 refine AQ.retCell rfl rfl (by repeat(exact List.Mem.head _)) (by rfl) rfl nS (⟨rfl,rfl⟩)
theorem s0m (n:Int):1≤cls n∧cls n≤3:=by unfold cls;(repeat' split)<;>omega
def inO (c:Int)(o:Opt):Opt:=if o.num=6∧rs c=true then⟨o.num,[]⟩else o
def inL (c:Int)(os:List Opt):List Opt:=(os.filter fun o=>decide (cls o.num≠2)).map (inO c)
def e0W (os:List Opt):List Opt:=os.filter fun o=>decide (cls o.num=2∨o.num=6)
def d0l (os:List Opt):Bool:=os.any fun o=>decide (o.num=6)
def p0I (os:List Opt):Bool:=os.any fun o=>decide (o.num=9∨o.num=35)
theorem l0S (c:Int)(os:List Opt)(o:Opt):inL c (os++[o])=if cls o.num≠2 then inL c os++[inO c o]else inL c os:=by
 unfold inL
 rw[List.filter_append,List.map_append]
 by_cases h:cls o.num=2<;>simp[h]
theorem j0f (os:List Opt)(o:Opt):e0W (os++[o])=if cls o.num=2∨o.num=6 then e0W os++[o]else e0W os:=by
 unfold e0W
 rw[List.filter_append]
 by_cases h:cls o.num=2∨o.num=6<;>simp[h]
theorem f0U (os:List Opt)(o:Opt):d0l (os++[o])=(d0l os||decide (o.num=6)):=by simp[d0l]
theorem j0M (os:List Opt)(o:Opt):p0I (os++[o])=(p0I os||decide (o.num=9∨o.num=35)):=by simp[p0I]
theorem p0f (c:Int)(os:List Opt):(inL c os).length≤os.length:=by rw[inL,List.length_map];exact List.length_filter_le _ _
theorem i0c (os:List Opt):(e0W os).length≤os.length:=List.length_filter_le _ _
def j0h (m:Msg):Int:=if rq m.code=true then(if d0l m.opts=true then 5 else 2)else(if d0l m.opts=true then 69 else 68)
def inM (m:Msg):Msg:=⟨0,m.code,0,[],inL m.code m.opts,m.pay⟩
def o0J (m:Msg):Msg:=⟨m.ty,j0h m,m.id,m.tok,e0W m.opts,[]⟩
def a0u (m:Msg):Msg×Msg×Int:=
 if ValM m∧(rq m.code=true∨rs m.code=true)then(if p0I m.opts=true then(Msg.none,Msg.none,15)else(inM m,o0J m,0))else(Msg.none,Msg.none,1)
abbrev w0z (r:Msg×Msg×Int):AV:= .tup [b0c r.1,b0c r.2.1,.val (.int .i64 r.2.2)]
theorem e0U {m a b:Msg}{e:Int}(h:a0u m=(a,b,e)):Is (w0z (a0u m)) (.tup [b0c a,b0c b,.val (.int .i64 e)]) []:=by rw[h];exact⟨rfl,rfl⟩
theorem ValM.sm {m:Msg}(h:ValM m):m.tok.length≤8∧m.pay.length≤4096∧m.opts.length≤32∧ ∀k,k<m.opts.length→(oat m.opts k).val.length≤1034:=by
 obtain⟨⟨-,h2,h3, -, -,h6⟩, -⟩:=h
 exact⟨by omega,by omega,by omega,fun k hk=>by have:=(d0B h3 hk).2.2;omega⟩
set_option maxHeartbeats 8000000 in
theorem q0j (m:Msg):Sp Tryz.prog 114 [b0c m] [] (Is (w0z (a0u m))):=by
 have bT: ∀{b:Bool},b=true→rq m.code=b→True:=fun _ _=>trivial
 refine yX Tryz.func114 _ Tryz.ntmps114 (fun w0 R0=> ?_)
 refine zD (zr ?_)
 refine yo ?_
 intro B1
 refine zd ?_
 intro B2
 refine zd ?_
 intro B3
 refine zc (zJ (zn (zD (zD (zr ?_)))))
 refine zA ?_
 refine vO (xM rfl Tryz.func119 rfl rfl rfl (p0r m)) ?_
 refine zb ?_
 refine zK ?_
 refine zK ?_
 refine zc ?_
 refine zc (zJ (zn (zD (zr ?_))))
 refine zb ?_
 refine y2 ?_
 refine zb ?_
 refine zN ?_
 refine yn 22 ?_
 refine AO.opG rfl rfl rfl (fun hp=>ve 23 rfl (by exact hp) (xM rfl Tryz.func152 rfl rfl rfl (d0n m.code))) ?_
 refine xc 24 ?_
 refine wQ 25 ?_
 refine zN ?_
 refine yn 27 ?_
 refine AO.opG rfl rfl rfl (fun hp=>ve 28 rfl (by exact hp) (xM rfl Tryz.func153 rfl rfl rfl (c0R m.code))) ?_
 refine xc 29 ?_
 refine va 26 ?_
 refine zI (zJ (zn ?_))
 refine yt (fun h=> ?_) (fun h=> ?_)<;>(try simp only[vT]at h)
 ·have e:a0u m=(Msg.none,Msg.none,1):=if_neg (by
   rintro⟨hv,hc⟩
   rw[h0x hv]at h
   simp at h
   simp[h.1,h.2]at hc)
  refine zD (zr ?_)
  refine zP ?_
  refine zP ?_
  refine za 1 ?_
  refine za 0 ?_
  refine zc (zJ (zn (xj (xx ?_))))
  refine wa yL zl (e0U e)
 have hv:ValM m:=Classical.byContradiction fun hv=>by rw[h0y hv]at h;simp at h
 have hc:rq m.code=true∨rs m.code=true:=by rw[h0x hv]at h;simp at h;cases hq:rq m.code<;>simp_all
 obtain⟨s1,s2,s3,s4⟩:=hv.sm
 refine y6 (zn (zD ?_))
 refine yA 7 ?_
 simp only[cT,cZ,cD,cO]
 refine yw ?_
 refine zM ?_
 refine yw ?_
 refine zM ?_
 refine x9 ?_
 refine x0 ?_
 refine yS ?_
 refine vb ?_
 simp only[a0h,cN,cA,cP]
 rintro _ _ ⟨B4,rfl,rfl⟩
 simp only[cA,cN]
 refine za 0 (zJ (zn (zD ?_)))
 refine yA 9 ?_
 simp only[cT,cZ,cD,cO]
 refine yw ?_
 refine zM ?_
 refine yw ?_
 refine zM ?_
 refine yw ?_
 refine zM ?_
 refine x9 ?_
 refine x0 ?_
 refine yS ?_
 refine vb ?_
 simp only[a0h,cN,cA,cP]
 rintro _ _ ⟨B5,rfl,rfl⟩
 simp only[cA,cN]
 refine za 0 (zJ (zn (zD (zr ?_))))
 refine zc (zJ (zn (zD (zD (zr ?_)))))
 refine zq ?_
 refine zp ?_
 refine zX ?_
 refine zb (zJ (zn (xo ?_)))
 refine AW.g ?_
 refine G.nilRow 96 2 ?_
 refine AW.u ?_
 refine AW.g ?_
 refine G.nilRow 96 2 ?_
 refine AW.u ?_
 refine xQ [(1,_),(2,_),(3,_),(7,_),(8,_),(50,_),(51,_)] (fun nn E H=> ∃(k:Nat) (V V':Value),(k≤m.opts.length)∧(V.oneCell'=true)∧(V'.oneCell'=true)∧(p0I (m.opts.take k)=false)∧nn=m.opts.length-k∧E= [(9,.val (.bool (d0l (m.opts.take k)))),(52,.val (.int .i64 (k:Int)))]∧H= [.row V 96 2 (inL m.code (m.opts.take k)).length (a0z (inL m.code (m.opts.take k))),.row V' 96 2 (e0W (m.opts.take k)).length (a0z (e0W (m.opts.take k))),.blk B4 29 6 [.val (.int .i64 0),.val (.int .i64 m.code),.val (.int .i64 0),.val (.slice none 0 0),.val V,roB m.pay],.blk B5 29 6 [.val (.int .i64 m.ty),.val (.int .i64 0),.val (.int .i64 m.id),roB m.tok,.val V',.val (.slice none 0 0)],.blk B3 29 6 [.val (.int .i64 0),.val (.int .i64 0),.val (.int .i64 0),.val (.slice none 0 0),.val (.slice none 0 0),.val (.slice none 0 0)],.blk B2 29 6 [.val (.int .i64 0),.val (.int .i64 0),.val (.int .i64 0),.val (.slice none 0 0),.val (.slice none 0 0),.val (.slice none 0 0)],.blk B1 29 6 [.val (.int .i64 m.ty),.val (.int .i64 m.code),.val (.int .i64 m.id),roB m.tok,roO m.opts,roB m.pay]]) _ (⟨0,_,_,by omega,rfl,rfl,rfl,rfl,rfl,rfl⟩) ?_
 rintro nn E H ⟨k,V,V',hk,hV,hV',hb,rfl,rfl,rfl⟩
 dsimp only[cA,cN]
 have hl1:=p0f m.code (m.opts.take k)
 have hl2:=i0c (m.opts.take k)
 rw[List.length_take]at hl1 hl2
 refine zD (zr ?_)
 refine zT (zJ (zn (zD ?_)))
 refine yt (fun h2=> ?_) (fun h2=> ?_)<;>(try simp only[vT]at h2)
 ·have hkk:k<m.opts.length:=by omega
  have hv4:(oat m.opts k).val.length≤140737488355328:=by have:=s4 k hkk;omega
  have hci:=s0m (oat m.opts k).num
  refine y6 (zn (zD (xo (zD (zr ?_)))))
  refine ye ?_
  refine y3 ?_
  refine zd ?_
  intro B6
  refine za 0 (zJ (zn (zD (zD (zr ?_)))))
  refine zq ?_
  refine zv ?_
  refine z8 ?_
  refine zb ?_
  refine zN ?_
  refine zw 60 ?_
  refine xe 61 ?_
  refine zI (zJ (zn ?_))
  refine yt (fun h3=> ?_) (fun h3=> ?_)<;>(try simp only[vT]at h3)
  ·have e:a0u m=(Msg.none,Msg.none,15):=by
    rw[a0u,if_pos ⟨hv,hc⟩,if_pos]
    exact List.any_eq_true.2 ⟨oat m.opts k,b0m _ hkk,by simpa using h3⟩
   refine zD (zr ?_)
   refine zP ?_
   refine zP ?_
   refine za 6 ?_
   refine za 5 ?_
   refine zc (zJ (zn (xj (xx ?_))))
   refine ww (xx ?_)
   refine AQ.loopR ?_
   refine ww (xx ?_)
   refine wa y5 zl (e0U e)
  refine y6 (zn (zD (zr ?_)))
  refine zq ?_
  refine zv ?_
  refine vO (xM rfl Tryz.func154 rfl rfl rfl (i0v _)) ?_
  refine zc (zJ (zn (zD (zD (zr ?_)))))
  refine zb ?_
  refine vO (O.and_ rfl rfl rfl (v0U 1 (by decide) (by decide) (m:=2) (by decide) (by omega))) ?_
  refine y2 (zJ (zn ?_))
  have hb':p0I (m.opts.take (k+1))=false:=by rw[a0i Opt.none hkk,j0M,hb,Bool.false_or];exact decide_eq_false (fun hx=>hx.elim h3.1 h3.2)
  have hw':d0l (m.opts.take (k+1))=(d0l (m.opts.take k)||decide ((oat m.opts k).num=6)):=by rw[a0i Opt.none hkk,f0U]
  have hin:=l0S m.code (m.opts.take k) (oat m.opts k)
  have hou:=j0f (m.opts.take k) (oat m.opts k)
  rw[←a0i Opt.none hkk]at hin hou
  refine xY [(1,_),(2,_),(3,_),(7,_),(8,_),(9,_),(11,_),(12,_),(50,_),(51,_),(52,_)] (fun E H=> ∃(W:Value),(W.oneCell'=true)∧E= []∧H= [.blk B6 96 2 [.val (.int .i64 (oat m.opts k).num),roB (oat m.opts k).val],.row W 96 2 (inL m.code (m.opts.take (k+1))).length (a0z (inL m.code (m.opts.take (k+1)))),.row V' 96 2 (e0W (m.opts.take k)).length (a0z (e0W (m.opts.take k))),.blk B4 29 6 [.val (.int .i64 0),.val (.int .i64 m.code),.val (.int .i64 0),.val (.slice none 0 0),.val W,roB m.pay],.blk B5 29 6 [.val (.int .i64 m.ty),.val (.int .i64 0),.val (.int .i64 m.id),roB m.tok,.val V',.val (.slice none 0 0)],.blk B3 29 6 [.val (.int .i64 0),.val (.int .i64 0),.val (.int .i64 0),.val (.slice none 0 0),.val (.slice none 0 0),.val (.slice none 0 0)],.blk B2 29 6 [.val (.int .i64 0),.val (.int .i64 0),.val (.int .i64 0),.val (.slice none 0 0),.val (.slice none 0 0),.val (.slice none 0 0)],.blk B1 29 6 [.val (.int .i64 m.ty),.val (.int .i64 m.code),.val (.int .i64 m.id),roB m.tok,roO m.opts,roB m.pay]]) (fun h71=> ?_) (fun h71=> ?_) ?_<;>try(try simp only[vT]at h71)
  ·rw[if_pos (by omega)]at hin
   refine zD (zr ?_)
   refine zC ?_
   refine vO (xM rfl Tryz.func155 rfl rfl rfl (e0B (oat m.opts k) hv4)) ?_
   refine zd ?_
   intro B7
   refine za 0 (zJ (zn (zD (zD (zr ?_)))))
   refine zq ?_
   refine zp ?_
   refine z8 ?_
   refine zb ?_
   refine zN ?_
   refine yn 78 ?_
   refine AO.opG rfl rfl rfl (fun hp=>ve 79 rfl (by exact hp) (xM rfl Tryz.func153 rfl rfl rfl (c0R m.code))) ?_
   refine zW (zJ (zn ?_))
   refine yt (fun h81=> ?_) (fun h81=> ?_)<;>(try simp only[vT]at h81)
   ·have hi2:inO m.code (oat m.opts k)=⟨(oat m.opts k).num,[]⟩:=if_pos h81
    rw[hi2]at hin
    refine zr ?_
    refine zq ?_
    refine za 0 (zJ (zn (zr ?_)))
    refine zq ?_
    refine zp ?_
    refine zC ?_
    refine zR ?_
    intro B8
    refine AO.g ?_
    refine yi 0 86 ?_
    refine wm 86 ?_
    refine AO.u ?_
    dsimp only[List.eraseIdx]
    refine zy 2 ?_
    intro V9 hV9
    refine zq ?_
    refine yF 4 (zJ ?_)
    refine AQ.g ?_
    refine G.coeRow 2 _ (a0z (inL m.code (m.opts.take k))++[.val (.int .i64 (oat m.opts k).num),roB []]) rfl rfl (CoeL.app CoeL.refl (CoeL.cons Coe.rfl (CoeL.cons Coe.nil CoeL.nil))) ?_
    refine AQ.u ?_
    refine AQ.midI _ _ (⟨_,‹_›,rfl,by rw[hin,a0D,cH]⟩) (by repeat(first|exact a0l|refine a0j rfl ?_)) (by repeat(exact a0l)) (by repeat(first|exact a0H|refine a0B 1 rfl ?_))
   have hi2:inO m.code (oat m.opts k)=oat m.opts k:=if_neg (fun hh=>by have:=h81 hh.1;rw[hh.2]at this;cases this)
   rw[hi2]at hin
   refine y6 (zn (zr ?_))
   refine zq ?_
   refine zp ?_
   refine zC ?_
   refine zR ?_
   intro B10
   refine AO.g ?_
   refine yi 0 86 ?_
   refine wm 86 ?_
   refine AO.u ?_
   dsimp only[List.eraseIdx]
   refine zy 2 ?_
   intro V11 hV11
   refine zq ?_
   refine yF 4 (zJ ?_)
   refine AQ.midI _ _ (⟨_,‹_›,rfl,by rw[hin,a0D,cH]⟩) (by repeat(first|exact a0l|refine a0j rfl ?_)) (by repeat(exact a0l)) (by repeat(first|exact a0H|refine a0B 1 rfl ?_))
  ·rw[if_neg (by omega)]at hin
   refine y6 ?_
   refine xw _ _ (⟨V,hV,rfl,by rw[hin]⟩)
  rintro E1 H1 ⟨W,hW,rfl,rfl⟩
  dsimp only[cA,cN]
  refine zn (zD (zD (zr ?_)))
  refine zb ?_
  refine z8 ?_
  refine zb ?_
  refine zN ?_
  refine zw 92 ?_
  refine xe 93 ?_
  refine zI (zJ (zn ?_))
  refine xY [(1,_),(2,_),(3,_),(7,_),(8,_),(9,_),(11,_),(50,_),(51,_),(52,_)] (fun E H=> ∃(W':Value),(W'.oneCell'=true)∧E= []∧H= [.blk B6 96 2 [.val (.int .i64 (oat m.opts k).num),roB (oat m.opts k).val],.row W 96 2 (inL m.code (m.opts.take (k+1))).length (a0z (inL m.code (m.opts.take (k+1)))),.row W' 96 2 (e0W (m.opts.take (k+1))).length (a0z (e0W (m.opts.take (k+1)))),.blk B4 29 6 [.val (.int .i64 0),.val (.int .i64 m.code),.val (.int .i64 0),.val (.slice none 0 0),.val W,roB m.pay],.blk B5 29 6 [.val (.int .i64 m.ty),.val (.int .i64 0),.val (.int .i64 m.id),roB m.tok,.val W',.val (.slice none 0 0)],.blk B3 29 6 [.val (.int .i64 0),.val (.int .i64 0),.val (.int .i64 0),.val (.slice none 0 0),.val (.slice none 0 0),.val (.slice none 0 0)],.blk B2 29 6 [.val (.int .i64 0),.val (.int .i64 0),.val (.int .i64 0),.val (.slice none 0 0),.val (.slice none 0 0),.val (.slice none 0 0)],.blk B1 29 6 [.val (.int .i64 m.ty),.val (.int .i64 m.code),.val (.int .i64 m.id),roB m.tok,roO m.opts,roB m.pay]]) (fun h95=> ?_) (fun h95=> ?_) ?_<;>try(try simp only[vT]at h95)
  ·rw[if_pos h95]at hou
   refine yA 5 ?_
   simp only[cT,cZ,cD,cO]
   refine yw ?_
   refine zM ?_
   refine vq ?_
   refine vP (xM rfl Tryz.func155 rfl rfl rfl (e0B (oat m.opts k) hv4)) ?_
   refine vP y9 ?_
   refine vb ?_
   simp only[a0h,cN,cA,cP]
   refine zy 2 ?_
   intro V12 hV12
   refine zq ?_
   refine yF 4 (zJ ?_)
   refine xw _ _ (⟨_,‹_›,rfl,by rw[hou,a0D,cH]⟩)
  ·rw[if_neg (by omega)]at hou
   refine y6 ?_
   refine xw _ _ (⟨V',hV',rfl,by rw[hou]⟩)
  rintro E1 H1 ⟨W',hW',rfl,rfl⟩
  dsimp only[cA,cN]
  refine zn (zr ?_)
  refine zb ?_
  refine zb ?_
  refine zN ?_
  refine zw 105 ?_
  refine xe 106 ?_
  refine zI ?_
  refine zc (zJ (xE (zn (zr ?_))))
  refine zB ?_
  refine zb (zJ ?_)
  refine zL _ _ _ (by omega) (⟨k+1,W,W',by omega,hW,hW',hb',rfl,by rw[hw'],rfl⟩)
 obtain rfl:k=m.opts.length:=by omega
 rw[List.take_length]at hb hl1 hl2⊢
 have hnb: ¬p0I m.opts=true:=by rw[hb];simp
 have e0:a0u m=(inM m,o0J m,0):=by rw[a0u,if_pos ⟨hv,hc⟩,if_neg hnb]
 refine AW.g ?_
 refine G.freezeCell 0 1 4 rfl rfl rfl ?_
 refine AW.u ?_
 refine AW.g ?_
 refine G.freezeCell 0 1 4 rfl rfl rfl ?_
 refine AW.u ?_
 refine wj ?_
 refine x8 ?_
 refine wd ?_
 refine xD (zn (zD (xo (zD (zr ?_)))))
 refine zq ?_
 refine zp ?_
 refine vO (xM rfl Tryz.func152 rfl rfl rfl (d0n m.code)) ?_
 refine zb ?_
 refine yC ?_
 refine zW ?_
 refine zc (zJ (zn ?_))
 refine yt (fun ha=> ?_) (fun ha=> ?_)<;>(try simp only[vT]at ha)
 ·have e1:j0h m=5:=by rw[j0h,if_pos ha.1,if_pos ha.2]
  have e:a0u m=(inM m,⟨m.ty,5,m.id,m.tok,e0W m.opts,[]⟩,0):=by rw[e0,o0J,e1]
  refine zr ?_
  refine zq ?_
  refine za 1 (zJ (xE (zn (zD ?_))))
  refine wc [(0,false),(1,false),(2,true),(3,true),(4,false)] ?_
  dsimp only[List.eraseIdx]
  refine yJ ?_
  refine zQ ?_
  refine xN _ (fun w0 R0=> ?_)
  refine za 0 (vI ?_)
  dsimp only[a0q]
  refine xN _ (fun w0 R0=> ?_)
  refine za 1 (vI ?_)
  dsimp only[a0q]
  refine wb ?_
  refine vd ?_
  dsimp only[cA,cN]
  refine zn (xj ?_)
  refine wa z6 zl (e0U e)
 refine zD (zr ?_)
 refine zq ?_
 refine zp ?_
 refine vO (xM rfl Tryz.func152 rfl rfl rfl (d0n m.code)) ?_
 refine zc (zJ (zn ?_))
 refine yt (fun hd=> ?_) (fun hd=> ?_)<;>(try simp only[vT]at hd)
 ·have e1:j0h m=2:=by rw[j0h,if_pos hd,if_neg (by rw[ha hd];simp)]
  have e:a0u m=(inM m,⟨m.ty,2,m.id,m.tok,e0W m.opts,[]⟩,0):=by rw[e0,o0J,e1]
  refine zr ?_
  refine zq ?_
  refine za 1 (zJ (xE (zn (zD ?_))))
  refine wc [(0,false),(1,false),(2,true),(3,true),(4,false)] ?_
  dsimp only[List.eraseIdx]
  refine yJ ?_
  refine zQ ?_
  refine xN _ (fun w0 R0=> ?_)
  refine za 0 (vI ?_)
  dsimp only[a0q]
  refine xN _ (fun w0 R0=> ?_)
  refine za 1 (vI ?_)
  dsimp only[a0q]
  refine wb ?_
  refine vd ?_
  dsimp only[cA,cN]
  refine zn (xj ?_)
  refine wa z6 zl (e0U e)
 refine zD (zr ?_)
 refine zb ?_
 refine zc (zJ (zn ?_))
 refine yt (fun hf=> ?_) (fun hf=> ?_)<;>(try simp only[vT]at hf)
 ·have e1:j0h m=69:=by rw[j0h,if_neg (by rw[hd];simp),if_pos hf]
  have e:a0u m=(inM m,⟨m.ty,69,m.id,m.tok,e0W m.opts,[]⟩,0):=by rw[e0,o0J,e1]
  refine zr ?_
  refine zq ?_
  refine za 1 (zJ (xE (zn (zD ?_))))
  refine wc [(0,false),(1,false),(2,true),(3,true),(4,false)] ?_
  dsimp only[List.eraseIdx]
  refine yJ ?_
  refine zQ ?_
  refine xN _ (fun w0 R0=> ?_)
  refine za 0 (vI ?_)
  dsimp only[a0q]
  refine xN _ (fun w0 R0=> ?_)
  refine za 1 (vI ?_)
  dsimp only[a0q]
  refine wb ?_
  refine vd ?_
  dsimp only[cA,cN]
  refine zn (xj ?_)
  refine wa z6 zl (e0U e)
 have e1:j0h m=68:=by rw[j0h,if_neg (by rw[hd];simp),if_neg (by rw[hf];simp)]
 have e:a0u m=(inM m,⟨m.ty,68,m.id,m.tok,e0W m.opts,[]⟩,0):=by rw[e0,o0J,e1]
 refine zr ?_
 refine zq ?_
 refine za 1 (zJ (xE (zn (zD ?_))))
 refine wc [(0,false),(1,false),(2,true),(3,true),(4,false)] ?_
 dsimp only[List.eraseIdx]
 refine yJ ?_
 refine zQ ?_
 refine xN _ (fun w0 R0=> ?_)
 refine za 0 (vI ?_)
 dsimp only[a0q]
 refine xN _ (fun w0 R0=> ?_)
 refine za 1 (vI ?_)
 dsimp only[a0q]
 refine wb ?_
 refine vd ?_
 dsimp only[cA,cN]
 refine zn (xj ?_)
 refine wa z6 zl (e0U e)
def ltO (os:List Opt)(n:Int):List Opt:=os.filter fun o=>decide (o.num<n)
def gtO (os:List Opt)(n:Int):List Opt:=os.filter fun o=>decide (n<o.num)
def eqO (n:Int)(vs:List (List UInt8)):List Opt:=vs.map fun v=>⟨n,v⟩
def e0O (os:List Opt)(n:Int)(vs:List (List UInt8)):List Opt:=ltO os n++eqO n vs++gtO os n
theorem l0Q (os:List Opt)(o:Opt)(n:Int):ltO (os++[o]) n=if o.num<n then ltO os n++[o]else ltO os n:=by
 unfold ltO
 rw[List.filter_append]
 by_cases h:o.num<n<;>simp[h]
theorem l0T (os:List Opt)(o:Opt)(n:Int):gtO (os++[o]) n=if n<o.num then gtO os n++[o]else gtO os n:=by
 unfold gtO
 rw[List.filter_append]
 by_cases h:n<o.num<;>simp[h]
theorem k0y (os:List Opt)(n:Int):(ltO os n).length≤os.length:=List.length_filter_le _ _
theorem k0C (os:List Opt)(n:Int):(gtO os n).length≤os.length:=List.length_filter_le _ _
theorem i0t (n:Int)(vs:List (List UInt8)):(eqO n vs).length=vs.length:=by simp[eqO]
theorem d0E {os:List Opt}{n:Int}{vs:List (List UInt8)}{o:Opt}(h:o∈e0O os n vs):o∈os∨ ∃v∈vs,o=⟨n,v⟩:=by
 unfold e0O ltO gtO eqO at h
 simp only[List.mem_append,List.mem_filter,List.mem_map]at h
 rcases h with(h|⟨v,h,rfl⟩)|h
 ·exact .inl h.1
 ·exact .inr ⟨v,h,rfl⟩
 exact .inl h.1
theorem h0Q (os:List Opt)(n:Int)(vs:List (List UInt8)):(e0O os n vs).length≤os.length+os.length+vs.length:=by
 have:=k0y os n
 have:=k0C os n
 simp only[e0O,cH,i0t];omega
theorem n0X (m:Msg)(n:Int)(vs:List (List UInt8))(h1:m.tok.length≤140737488355328)(h2:m.pay.length≤140737488355328)(h3:m.opts.length≤100000)(h4:vs.length≤100000)(hat: ∀o∈m.opts,o.val.length≤140737488355328)(hvs: ∀v∈vs,v.length≤140737488355328):
  Sp Tryz.prog 25 [b0c m,.val (.int .i64 n),u0v vs] [] (Is (b0c ⟨m.ty,m.code,m.id,m.tok,e0O m.opts n vs,m.pay⟩)):=by
 have hat2: ∀o∈e0O m.opts n vs,o.val.length≤140737488355328:=fun o ho=>by
  rcases d0E ho with h|⟨v,h,rfl⟩
  ·exact hat o h
  exact hvs v h
 have hsl:=h0Q m.opts n vs
 refine yX Tryz.func25 _ Tryz.ntmps25 (fun w0 R0=> ?_)
 refine zD (zr ?_)
 refine yo ?_
 intro B1
 refine zd ?_
 intro B2
 refine zJ (zn (zD (zr ?_)))
 refine zc (zJ (zn (zD (zD (zr ?_)))))
 refine zq ?_
 refine zp ?_
 refine zX ?_
 refine zb (zJ (zn (xo ?_)))
 refine AW.g ?_
 refine G.nilRow 96 2 ?_
 refine AW.u ?_
 refine zi [(1,_),(2,_),(3,_),(6,_),(15,_),(16,_)] (fun nn E H=> ∃(k:Nat) (V:Value),(k≤m.opts.length)∧(V.oneCell'=true)∧nn=m.opts.length-k∧E= [(7,.val V),(17,.val (.int .i64 (k:Int)))]∧H= [.row V 96 2 (ltO (m.opts.take k) n).length (a0z (ltO (m.opts.take k) n)),.blk B2 29 6 [.val (.int .i64 0),.val (.int .i64 0),.val (.int .i64 0),.val (.slice none 0 0),.val (.slice none 0 0),.val (.slice none 0 0)],.blk B1 29 6 [.val (.int .i64 m.ty),.val (.int .i64 m.code),.val (.int .i64 m.id),roB m.tok,roO m.opts,roB m.pay]]) _ (⟨0,_,by omega,rfl,rfl,rfl,rfl⟩) ?_
 rintro nn E H ⟨k,V,h5,hV,rfl,rfl,rfl⟩
 dsimp only[cA,cN]
 have hl:=k0y (m.opts.take k) n
 rw[List.length_take]at hl
 refine zD (zr ?_)
 refine zT (zJ (zn (zD ?_)))
 refine yt (fun h6=> ?_) (fun h6=> ?_)<;>(try simp only[vT]at h6)
 ·have hk:k<m.opts.length:=by omega
  have hsc:=l0Q (m.opts.take k) (oat m.opts k) n
  rw[←a0i Opt.none hk]at hsc
  refine y6 (zn (zD (xo (zD (zr ?_)))))
  refine ye ?_
  refine y3 ?_
  refine zd ?_
  intro B3
  refine za 0 (zJ (zn (zD (zr ?_))))
  refine zq ?_
  refine zv ?_
  refine zb ?_
  refine zT (zJ (zn ?_))
  refine yt (fun h7=> ?_) (fun h7=> ?_)<;>(try simp only[vT]at h7)
  ·rw[if_pos h7]at hsc
   refine zr ?_
   refine zb ?_
   refine zC ?_
   refine zR ?_
   intro B4
   refine AO.g ?_
   refine yi 0 27 ?_
   refine wm 27 ?_
   refine AO.u ?_
   dsimp only[List.eraseIdx]
   refine zy 1 ?_
   intro V5 hV5
   refine zc (zJ (xE (zn (zr ?_))))
   refine zB ?_
   refine zb (zJ ?_)
   refine zL _ _ _ (by omega) (⟨k+1,_,by omega,‹_›,rfl,rfl,by rw[hsc,a0D,cH]⟩)
  rw[if_neg (by omega)]at hsc
  refine y6 (xE (zn (zr ?_)))
  refine zB ?_
  refine zb (zJ ?_)
  refine zL _ _ _ (by omega) (⟨k+1,_,by omega,hV,rfl,rfl,by rw[hsc]⟩)
 obtain rfl:k=m.opts.length:=by omega
 rw[List.take_length]at hl⊢
 refine wj ?_
 refine x8 ?_
 refine wd ?_
 refine xD (zn (zD (zD (zr ?_))))
 refine zb ?_
 refine zX ?_
 refine zb (zJ (zn (xo ?_)))
 refine zi [(1,_),(3,_),(6,_),(30,_),(31,_)] (fun nn E H=> ∃(j:Nat) (V:Value),(j≤vs.length)∧(V.oneCell'=true)∧nn=vs.length-j∧E= [(7,.val V),(32,.val (.int .i64 (j:Int)))]∧H= [.row V 96 2 (ltO m.opts n++eqO n (vs.take j)).length (a0z (ltO m.opts n++eqO n (vs.take j))),.blk B2 29 6 [.val (.int .i64 0),.val (.int .i64 0),.val (.int .i64 0),.val (.slice none 0 0),.val (.slice none 0 0),.val (.slice none 0 0)],.blk B1 29 6 [.val (.int .i64 m.ty),.val (.int .i64 m.code),.val (.int .i64 m.id),roB m.tok,roO m.opts,roB m.pay]]) _ (⟨0,_,by omega,hV,rfl,rfl,by rw[show ltO m.opts n++eqO n (vs.take 0)=ltO m.opts n by simp[eqO]]⟩) ?_
 rintro nn E H ⟨j,V,h8,hV,rfl,rfl,rfl⟩
 dsimp only[cA,cN]
 have hl2:(ltO m.opts n++eqO n (vs.take j)).length=(ltO m.opts n).length+j:=by rw[cH,i0t,List.length_take];omega
 refine zD (zr ?_)
 refine zT (zJ (zn (zD ?_)))
 refine yt (fun h9=> ?_) (fun h9=> ?_)<;>(try simp only[vT]at h9)
 ·have hj:j<vs.length:=by omega
  have hsc:ltO m.opts n++eqO n (vs.take (j+1))=(ltO m.opts n++eqO n (vs.take j))++[⟨n,vat vs j⟩]:=by
   rw[a0i [] hj];simp[eqO]
  refine y6 (zn (zD (xo (zD (zr ?_)))))
  refine ye ?_
  refine vO (O.loadR rfl rfl (by exact g0M (by omega) (by omega))) ?_
  refine zc (zJ (zn (zr ?_)))
  refine zb ?_
  refine zb ?_
  refine zb ?_
  refine zP ?_
  refine zR ?_
  intro B6
  refine AO.g ?_
  refine yi 0 40 ?_
  refine wm 40 ?_
  refine AO.u ?_
  dsimp only[List.eraseIdx]
  refine zy 0 ?_
  intro V7 hV7
  refine zc (zJ (xE (zn (zr ?_))))
  refine zB ?_
  refine zb (zJ ?_)
  refine zu _ _ _ (by omega) (⟨j+1,_,by omega,‹_›,rfl,rfl,by rw[hsc,a0D,cH]⟩)
 obtain rfl:j=vs.length:=by omega
 rw[List.take_length]at hl2⊢
 refine wj ?_
 refine x8 ?_
 refine wd ?_
 refine xD (zn (zD (zD (zr ?_))))
 refine zq ?_
 refine zp ?_
 refine zX ?_
 refine zb (zJ (zn (xo ?_)))
 refine zi [(1,_),(3,_),(6,_),(44,_),(45,_)] (fun nn E H=> ∃(i:Nat) (V:Value),(i≤m.opts.length)∧(V.oneCell'=true)∧nn=m.opts.length-i∧E= [(7,.val V),(46,.val (.int .i64 (i:Int)))]∧H= [.row V 96 2 (ltO m.opts n++eqO n vs++gtO (m.opts.take i) n).length (a0z (ltO m.opts n++eqO n vs++gtO (m.opts.take i) n)),.blk B2 29 6 [.val (.int .i64 0),.val (.int .i64 0),.val (.int .i64 0),.val (.slice none 0 0),.val (.slice none 0 0),.val (.slice none 0 0)],.blk B1 29 6 [.val (.int .i64 m.ty),.val (.int .i64 m.code),.val (.int .i64 m.id),roB m.tok,roO m.opts,roB m.pay]]) _ (⟨0,_,by omega,hV,rfl,rfl,by rw[show ltO m.opts n++eqO n vs++gtO (m.opts.take 0) n=ltO m.opts n++eqO n vs by simp[gtO]]⟩) ?_
 rintro nn E H ⟨i,V,h10,hV,rfl,rfl,rfl⟩
 dsimp only[cA,cN]
 have hl3:=k0C (m.opts.take i) n
 rw[List.length_take]at hl3
 have hl4:(ltO m.opts n++eqO n vs++gtO (m.opts.take i) n).length=(ltO m.opts n++eqO n vs).length+(gtO (m.opts.take i) n).length:=List.length_append
 refine zD (zr ?_)
 refine zT (zJ (zn (zD ?_)))
 refine yt (fun h11=> ?_) (fun h11=> ?_)<;>(try simp only[vT]at h11)
 ·have hk:i<m.opts.length:=by omega
  have hsc:=l0T (m.opts.take i) (oat m.opts i) n
  rw[←a0i Opt.none hk]at hsc
  refine y6 (zn (zD (xo (zD (zr ?_)))))
  refine ye ?_
  refine y3 ?_
  refine zd ?_
  intro B8
  refine za 0 (zJ (zn (zD (zr ?_))))
  refine zq ?_
  refine zv ?_
  refine zb ?_
  refine yZ (zJ (zn ?_))
  refine yt (fun h12=> ?_) (fun h12=> ?_)<;>(try simp only[vT]at h12)
  ·rw[if_pos h12]at hsc
   refine zr ?_
   refine zb ?_
   refine zC ?_
   refine zR ?_
   intro B9
   refine AO.g ?_
   refine yi 0 56 ?_
   refine wm 56 ?_
   refine AO.u ?_
   dsimp only[List.eraseIdx]
   refine zy 1 ?_
   intro V10 hV10
   refine zc (zJ (xE (zn (zr ?_))))
   refine zB ?_
   refine zb (zJ ?_)
   refine zL _ _ _ (by omega) (⟨i+1,_,by omega,‹_›,rfl,rfl,by rw[hsc,←List.append_assoc,a0D,List.length_append (bs:= [_])]⟩)
  rw[if_neg (by omega)]at hsc
  refine y6 (xE (zn (zr ?_)))
  refine zB ?_
  refine zb (zJ ?_)
  refine zL _ _ _ (by omega) (⟨i+1,_,by omega,hV,rfl,rfl,by rw[hsc]⟩)
 obtain rfl:i=m.opts.length:=by omega
 rw[List.take_length]
 refine AW.g ?_
 refine yf 0 [7] ?_
 refine AW.u ?_
 try dsimp only[List.map,List.eraseIdx,cA,cN]
 refine wj ?_
 refine x8 ?_
 refine wd ?_
 refine xD (zn (zD (zr ?_)))
 refine zA ?_
 refine zb ?_
 refine vO (xM rfl Tryz.func75 rfl rfl rfl (s0E m (e0O m.opts n vs) h1 h2 (by omega) hat2)) ?_
 refine za 0 (zJ (zn (xj ?_)))
 refine AQ.retCell rfl rfl (by repeat(exact List.Mem.head _)) (by(dsimp only[List.set,cA,cN,List.take,List.drop];rfl)) rfl nS (⟨rfl,rfl⟩)
end Go.Proofs.YtojomcdjcpmnkaaGreat.By
namespace Go.Proofs.YtojomcdjcpmnkaaGreat.By
open Go.RowKit L A Dk
attribute [local irreducible] AW AQ AO
theorem m0j: ∀{l:Int} {os:List Opt},AscO l os↔os.Pairwise (fun a b=>a.num≤b.num)∧ ∀o∈os,l≤o.num∧o.num≤65535∧(o.val.length:Int)≤1034
 |l,[]=>by simp[AscO]
 | l,o::os=>by
  rw[AscO,m0j,List.pairwise_cons]
  simp only[List.mem_cons,forall_eq_or_imp]
  constructor
  ·rintro⟨h1,h2,h3,h4,h5⟩
   exact⟨⟨fun a ha=>(h5 a ha).1,h4⟩,⟨h1,h2,h3⟩,fun a ha=>⟨Int.le_trans h1 (h5 a ha).1,(h5 a ha).2⟩⟩
  rintro⟨⟨h1,h2⟩,⟨h3,h4,h5⟩,h6⟩
  exact⟨h3,h4,h5,h2,fun a ha=>⟨h1 a ha,(h6 a ha).2⟩⟩
theorem q0o {os:List Opt}{n:Int}{vs:List (List UInt8)}(h:AscO 0 os)(hn:0≤n∧n≤65535)(hv: ∀v∈vs,(v.length:Int)≤1034):AscO 0 (e0O os n vs):=by
 rw[m0j]at h⊢
 obtain⟨h1,h2⟩:=h
 refine⟨?_,fun o ho=> ?_⟩
 ·unfold e0O ltO gtO eqO
  rw[List.pairwise_append,List.pairwise_append]
  refine⟨⟨h1.filter _,?_,?_⟩,h1.filter _,?_⟩
  ·rw[List.pairwise_map]
   exact List.Pairwise.imp (R:=fun _ _=>True) (fun _=>Int.le_refl _) (List.pairwise_of_forall (fun _ _=>trivial))
  ·intro a ha b hb
   simp only[List.mem_filter,cQ,List.mem_map]at ha hb
   obtain⟨v, -,rfl⟩:=hb
   simp only;omega
  intro a ha b hb
  simp only[List.mem_append,List.mem_filter,cQ,List.mem_map]at ha hb
  rcases ha with ha|⟨v, -,rfl⟩
  ·omega
  simp only;omega
 rcases d0E ho with ho|⟨v,hv',rfl⟩
 ·exact h2 o ho
 exact⟨hn.1,hn.2,hv v hv'⟩
theorem h0g (n:Int): ∀os:List Opt,(ltO os n).length+(b0I os n).length+(gtO os n).length=os.length
 | []=>rfl
 |o::os=>by
  have:=h0g n os
  unfold ltO b0I gtO at*
  simp only[List.filter_cons,List.length_map]at*
  rcases Int.lt_trichotomy o.num n with h|h|h
  ·rw[if_pos (by simpa using h),if_neg (by simp;omega),if_neg (by simp;omega)];simp only[cL];omega
  ·rw[if_neg (by simp;omega),if_pos (by simpa using h),if_neg (by simp;omega)];simp only[cL];omega
  rw[if_neg (by simp;omega),if_neg (by simp;omega),if_pos (by simpa using h)];simp only[cL];omega
theorem n0Y (os:List Opt)(n:Int)(v:List UInt8):(e0O os n (b0I os n++[v])).length=os.length+1:=by
 have:=h0g n os
 simp only[e0O,cH,i0t,cL,cE];omega
theorem i0B {os:List Opt}{n:Int}{v:List UInt8}(h:v∈b0I os n): ∃o∈os,o.val=v:=by
 unfold b0I at h
 obtain⟨o,ho,rfl⟩:=List.mem_map.1 h
 exact⟨o,(List.mem_filter.1 ho).1,rfl⟩
def s0z (c:Int):Prop:=0≤c∧c≤255∧i0D c
def OptsOk (n:Nat)(os:List Opt):Prop:=AscO 0 os∧os.length≤n∧ ∀o∈os,o.val.length≤5
theorem OptsOk.add {c:Nat}{os:List Opt}(h:OptsOk c os){n:Int}(hn:0≤n∧n≤65535){v:List UInt8}(hv:v.length≤5):OptsOk (c+1) (e0O os n (b0I os n++[v])):=by
 have hm: ∀w∈b0I os n++[v],w.length≤5:=fun w hw=>by
  rcases List.mem_append.1 hw with hw|hw
  ·obtain⟨o,ho,rfl⟩:=i0B hw
   exact h.2.2 o ho
  obtain rfl:w=v:=by simpa using hw
  exact hv
 refine⟨q0o h.1 hn fun w hw=>by have:=hm w hw;omega,by rw[n0Y];have:=h.2.1;omega,fun o ho=> ?_⟩
 rcases d0E ho with ho|⟨w,hw,rfl⟩
 ·exact h.2.2 o ho
 exact hm w hw
theorem u0W {m:Msg}{n:Int}{vs:List (List UInt8)}{N:Nat}{xs:List AV}(e1:N=vs.length)(e2:xs=bsA vs)(h1:m.tok.length≤140737488355328)(h2:m.pay.length≤140737488355328)(h3:m.opts.length≤100000)(h4:vs.length≤100000)(hat: ∀o∈m.opts,o.val.length≤140737488355328)(hvs: ∀v∈vs,v.length≤140737488355328):
  Sp Tryz.prog 25 [b0c m,.val (.int .i64 n),.ro false N xs] [] (Is (b0c ⟨m.ty,m.code,m.id,m.tok,e0O m.opts n vs,m.pay⟩)):=by
 subst e1;subst e2
 exact n0X m n vs h1 h2 h3 h4 hat hvs
theorem OptsOk.big {n:Nat}{os:List Opt}(h:OptsOk n os): ∀o∈os,o.val.length≤140737488355328:=fun o ho=>by have:=h.2.2 o ho;omega
theorem OptsOk.vals {n:Nat}{os:List Opt}(h:OptsOk n os){x:Int}{v:List UInt8}(hv:v.length≤5): ∀w∈b0I os x++[v],w.length≤140737488355328:=fun w hw=>by
 rcases List.mem_append.1 hw with hw|hw
 ·obtain⟨o,ho,rfl⟩:=i0B hw
  have:=h.2.2 o ho;omega
 obtain rfl:w=v:=by simpa using hw
 omega
def MsgOk (c:Int)(m:Msg):Prop:=ValM m∧m.code=c∧m.tok.length≤8∧m.pay.length≤20∧m.opts.length≤5∧ ∀o∈m.opts,o.val.length≤5
theorem MsgOk.sm {c:Int}{m:Msg}(h:MsgOk c m):SmM m:=⟨by have:=h.2.2.1;omega,by have:=h.2.2.2.1;omega,by have:=h.2.2.2.2.1;omega,fun o ho=>by have:=h.2.2.2.2.2 o ho;omega⟩
theorem g0h {m:Msg}(h1:m.tok.length≤8)(h2:m.pay.length≤20)(h3:m.opts.length≤5)(ha:AscO 0 m.opts)(h4: ∀o∈m.opts,o.val.length≤5):(raw m).length≤4096:=by
 have key: ∀(os:List Opt) (l:Int),(∀o∈os,o.val.length≤5)→(h0m l os).length≤os.length*10:=by
  intro os
  induction os with
  |nil=>intro l _;simp[h0m]
  |cons o os ih=>
   intro l h
   have g1:=ih o.num fun p hp=>h p (List.mem_cons_of_mem _ hp)
   have g2:=p0k (o.num-l) o.val.length
   have g3:=h o (List.mem_cons_self ..)
   simp only[h0m,cH,cL];omega
 have g1:=key m.opts 0 h4
 have g2:(if m.pay= []then []else(255:UInt8)::m.pay).length≤m.pay.length+1:=by split<;>simp
 simp only[raw,g0t,cH,cL,cE]at g2⊢
 omega
theorem MsgOk.mk {t c i:Int}{x p:List UInt8}{os:List Opt}(ht:0≤t∧t<2)(hc:s0z c)(hc0:c≠0)(hi:0≤i∧i<65536)(hx:x.length≤4)(ho:OptsOk 5 os)(hp:p.length≤20):MsgOk c ⟨t,c,i,x,os,p⟩:=by
 refine⟨⟨⟨⟨ht.1,by simp only;omega,hc.1,hc.2.1,hc.2.2⟩,⟨hi.1,by simp only;omega,by simp only;omega,by have:=ho.2.1;simp only;omega⟩,ho.1,fun h=>absurd h hc0,fun h=>by simp only at h;omega,by simp only;omega⟩,?_⟩,rfl,by simp only;omega,hp,ho.2.1,ho.2.2⟩
 have:=g0h (m:=⟨t,c,i,x,os,p⟩) (by simp only;omega) hp ho.2.1 ho.1 ho.2.2
 omega
theorem MsgOk.zero {t i:Int}(ht:0≤t∧t<4)(hi:0≤i∧i<65536):MsgOk 0 ⟨t,0,i,[],[],[]⟩:=by
 refine⟨⟨⟨⟨ht.1,by simp only;omega,by simp,by simp,.inl rfl⟩,⟨hi.1,by simp only;omega,by simp,by simp⟩,trivial,fun _=>by simp,fun _=>rfl,by simp⟩,?_⟩,rfl,by simp,by simp,by simp,by simp⟩
 have:=g0h (m:=⟨t,0,i,[],[],[]⟩) (by simp) (by simp) (by simp) trivial (by simp)
 omega
def g0S (m:Msg):Prop:=(m.opts.length≤20∧m.tok.length≤900∧m.pay.length≤900)∧ ∀k,k<m.opts.length→(oat m.opts k).val.length≤900
instance (m:Msg):Decidable (g0S m):=by unfold g0S;infer_instance
theorem h0N (b:List UInt8):Sp Tryz.prog 53 [roB b] [] (Is (.val (.bool (decide ((b.length:Int)≤900))))):=by
 refine yX Tryz.func53 _ Tryz.ntmps53 (fun w0 R0=> ?_)
 refine zD (zr ?_)
 refine zc (zJ (zn (zD (zr ?_))))
 refine zb ?_
 refine zX ?_
 refine vO wI ?_
 refine zc (zJ (zn (xj ?_)))
 refine yM
theorem n0R (m:Msg)(hp:m.opts.length≤maxLen):Sp Tryz.prog 9 [b0c m] [] (Is (.val (.bool (decide (g0S m))))):=by
 unfold maxLen at hp
 refine yX Tryz.func9 _ Tryz.ntmps9 (fun w0 R0=> ?_)
 refine zD (zr ?_)
 refine yo ?_
 intro B1
 refine zc (zJ (zn (zD (zD (zr ?_)))))
 refine zq ?_
 refine zv ?_
 refine zX ?_
 refine zb (zJ (zn (xo ?_)))
 refine zi [(1,_),(6,_),(7,_)] (fun nn E H=> ∃(k:Nat),(k≤m.opts.length)∧(∀j,j<k→(oat m.opts j).val.length≤900)∧nn=m.opts.length-k∧E= [(8,.val (.int .i64 (k:Int)))]∧H= [.blk B1 29 6 [.val (.int .i64 m.ty),.val (.int .i64 m.code),.val (.int .i64 m.id),roB m.tok,roO m.opts,roB m.pay]]) _ (⟨0,by omega,by omega,rfl,rfl,rfl⟩) ?_
 rintro nn E H ⟨k,hk,hh,rfl,rfl,rfl⟩
 dsimp only[cA,cN]
 refine zD (zr ?_)
 refine zT (zJ (zn (zD ?_)))
 refine yt (fun h2=> ?_) (fun h2=> ?_)<;>(try simp only[vT]at h2)
 ·have hk2:k<m.opts.length:=by omega
  refine y6 (zn (zD (xo (zD (zr ?_)))))
  refine ye ?_
  refine y3 ?_
  refine zd ?_
  intro B2
  refine za 0 (zJ (zn (zD (zr ?_))))
  refine zq ?_
  refine zv ?_
  refine vO (xM rfl Tryz.func53 rfl rfl rfl (h0N _)) ?_
  refine xu (zJ (zn ?_))
  refine yt (fun h3=> ?_) (fun h3=> ?_)<;>(try simp only[vT]at h3)
  ·have e:decide (g0S m)=false:=decide_eq_false fun hl=>by have:=hl.2 k hk2;omega
   refine zD (zr ?_)
   refine zc (zJ (zn (xj ?_)))
   refine ww (xx ?_)
   refine AQ.loopR ?_
   refine ww (xx ?_)
   refine vz rfl rfl nS (⟨by rw[e];rfl,rfl⟩)
  refine y6 (xE (zn (zr ?_)))
  refine zB ?_
  refine zb (zJ ?_)
  refine zL _ _ _ (by omega) (⟨k+1,by omega,fun j hj=>(Nat.lt_or_ge j k).elim (hh j) (fun h5=>by rw[show j=k by omega];omega),rfl,rfl,rfl⟩)
 obtain rfl:k=m.opts.length:=by omega
 refine wj ?_
 refine x8 ?_
 refine wd ?_
 refine xD (zn (zD (zr ?_)))
 refine zq ?_
 refine zv ?_
 refine zX ?_
 refine vO wI ?_
 refine zb ?_
 refine zN ?_
 refine zw 22 ?_
 refine AO.opG rfl rfl rfl (fun hp=>ve 23 rfl (by exact hp) (xM rfl Tryz.func53 rfl rfl rfl (h0N _))) ?_
 refine zW ?_
 refine zb ?_
 refine zN ?_
 refine zw 27 ?_
 refine AO.opG rfl rfl rfl (fun hp=>ve 28 rfl (by exact hp) (xM rfl Tryz.func53 rfl rfl rfl (h0N _))) ?_
 refine zW ?_
 refine zc (zJ (zn (xj ?_)))
 have e:decide (g0S m)=(decide ((m.opts.length:Int)≤20)&&decide ((m.tok.length:Int)≤900)&&decide ((m.pay.length:Int)≤900)):=g0H (by
  simp only[g0S,Bool.and_eq_true,cQ]
  exact⟨fun h=>by have:=h.1;omega,fun h=>⟨by omega,hh⟩⟩)
 refine vz rfl rfl nS (⟨congrArg (fun z=>AV.val (.bool z)) e.symm,rfl⟩)
def drL:List Int:= [1,3,4,6,7,11,12,14,15,16,17,23,27,39,60,252,258,292,300]
theorem w0U {z:Int}(h0:0≤z)(h1:z<19){j:Nat}(hj:j=z.toNat*1):([.val (.int .i64 1),.val (.int .i64 3),.val (.int .i64 4),.val (.int .i64 6),.val (.int .i64 7),.val (.int .i64 11),.val (.int .i64 12),.val (.int .i64 14),.val (.int .i64 15),.val (.int .i64 16),.val (.int .i64 17),.val (.int .i64 23),.val (.int .i64 27),.val (.int .i64 39),.val (.int .i64 60),.val (.int .i64 252),.val (.int .i64 258),.val (.int .i64 292),.val (.int .i64 300)]:List AV)[j]? =some (.val (.int .i64 (drL.getD z.toNat 0))):=by
 subst hj
 rw[Nat.mul_one]
 have h2:z.toNat<19:=by omega
 have: ∀k,k<19→([1,3,4,6,7,11,12,14,15,16,17,23,27,39,60,252,258,292,300]:List Int)[k]? =some (drL.getD k 0):=by decide
 have:=congrArg (Option.map (fun n:Int=>AV.val (.int .i64 n))) (this _ h2)
 rw[←List.getElem?_map]at this
 exact this
theorem v0J {z:Int}(h0:0≤z)(h1:z<19):drL.getD z.toNat 0∈drL:=by
 have: ∀k,k<19→drL.getD k 0∈drL:=by decide
 exact this _ (by omega)
theorem w0T {n:Int}(h:n∈drL):0≤n∧n≤65535:=by
 have: ∀n∈drL,0≤n∧n≤65535:=by decide
 exact this n h
def Dr (n:Nat)(os:List Opt):Prop:=OptsOk n os∧ ∀o∈os,o.num∈drL
theorem Dr.add {c:Nat}{os:List Opt}(h:Dr c os){n:Int}(hn:n∈drL){v:List UInt8}(hv:v.length≤5):Dr (c+1) (e0O os n (b0I os n++[v])):=
 ⟨h.1.add (w0T hn) hv,fun o ho=>by
  rcases d0E ho with ho|⟨w,hw,rfl⟩
  ·exact h.2 o ho
  exact hn⟩
theorem r0I (ty code id:Int)(tok:List UInt8)(os:List Opt)(pay:List UInt8)(n:Int)(h3:os.length≤1000000)(hat: ∀o∈os,o.val.length≤140737488355328):Sp Tryz.prog 71 [b0c ⟨ty,code,id,tok,os,pay⟩,.val (.int .i64 n)] []
  (fun v' Hn=> ∃v:Value,v'= .val v∧v.oneCell'=true∧Hn= [.row v 22 1 (b0I os n).length (bsA (b0I os n))]∧(b0I os n).length≤os.length):=
 (p0P ⟨ty,code,id,tok,os,pay⟩ n h3 hat).mono fun r H' ⟨v,h1,h2,h3⟩=>⟨v,h1,h2,h3,d0Q _ _⟩
abbrev wO (m:Msg)(os:List Opt):Msg:=⟨m.ty,m.code,m.id,m.tok,os,m.pay⟩
theorem k0K (b:Nat)(l:List Int)(k:Nat)(m:Msg)(hl:l.length≤maxLen)(hk:k≤l.length)(hm:m.opts= [])(ht:m.tok.length≤1000)(hp:m.pay.length≤1000):
  Sp Tryz.prog 56 [ptr b,b0c m] [g0Y b l k] (Gen b l fun r=> ∃os,Dr 5 os∧r=b0c (wO m os)):=by
 obtain⟨ty,code,id,tok,opts,pay⟩:=m
 simp only at hm ht hp
 subst hm
 refine yX Tryz.func56 _ Tryz.ntmps56 (fun w0 R0=> ?_)
 refine zD (zr ?_)
 refine yo ?_
 intro B1
 refine zd ?_
 intro B2
 refine zJ (zn (zD (zD (zr ?_))))
 refine zb ?_
 refine AO.callMG 2 rfl rfl Tryz.func33 rfl rfl rfl rfl rfl rfl (b0q _ l _ _ hl (by assumption) (by omega) (by omega)) ?_
 rintro _ _ ⟨⟨z3,hz03,hz13,rfl⟩,kd3,hkd3,rfl⟩
 dsimp only[cA,cN,List.eraseIdx]
 refine zc (zJ (zn (xo ?_)))
 obtain⟨c0,rfl⟩: ∃c:Nat,z3=(c:Int):=⟨z3.toNat,by omega⟩
 refine zi [(0,_),(3,_),(4,_)] (fun nn E H=> ∃(c:Nat) (os:List Opt) (kk:Nat),(c≤5)∧(Dr (5-c) os)∧(kk≤l.length)∧c=nn∧E= [(5,.val (.int .i64 (c:Int)))]∧H= [g0Y b l kk,.blk B2 29 6 [.val (.int .i64 0),.val (.int .i64 0),.val (.int .i64 0),.val (.slice none 0 0),.val (.slice none 0 0),.val (.slice none 0 0)],.blk B1 29 6 [.val (.int .i64 ty),.val (.int .i64 code),.val (.int .i64 id),roB tok,roO os,roB pay]]) _ (⟨c0,[],kd3,by omega,⟨⟨trivial,by simp,by simp⟩,by simp⟩,hkd3,rfl,rfl,rfl⟩) ?_
 rintro nn E H ⟨c,os,kk,hc,ho,hkk,rfl,rfl,rfl⟩
 dsimp only[cA,cN]
 have hol:=ho.1.2.1
 have hal:=fun x=>d0Q os x
 refine zD (zD (zr ?_))
 refine zb ?_
 refine yZ (zJ (zn ?_))
 refine yt (fun h=> ?_) (fun h=> ?_)<;>(try simp only[vT]at h)
 ·obtain⟨j,rfl⟩: ∃j,c=j+1:=⟨c-1,by omega⟩
  refine y6 (zn (zD (xo (zD (zr ?_)))))
  refine zR ?_
  intro B4
  refine AO.g ?_
  refine yi 0 13 ?_
  refine wm 13 ?_
  refine AO.u ?_
  dsimp only[List.eraseIdx]
  refine zb ?_
  refine AO.callMG 0 rfl rfl Tryz.func33 rfl rfl rfl rfl rfl rfl (b0q _ l _ _ hl (by assumption) (by omega) (by omega)) ?_
  rintro _ _ ⟨⟨z5,hz05,hz15,rfl⟩,kd5,hkd5,rfl⟩
  dsimp only[cA,cN,List.eraseIdx]
  refine ye ?_
  refine vO (O.loadR rfl rfl (by exact w0U (by assumption) (by assumption) rfl)) ?_
  refine zc (zJ (zn ?_))
  refine vo [[(0,false),(1,false),(2,false),(3,false),(5,false),(4,true),(6,true),(7,false),(8,true)],[(9,false)],[(10,true)]] ?_
  refine AMS.go (by exact(by exact a0K 0 0 rfl rfl a0g)) ?_
  try dsimp only[List.eraseIdx]
  refine zQ ?_
  refine yW ?_
  refine zQ ?_
  refine yW ?_
  refine yW ?_
  refine xN _ (fun w0 R0=> ?_)
  refine AO.opN (xM rfl Tryz.func71 rfl rfl rfl (r0I ty code id tok os pay _ (by omega) ho.1.big)) rfl rfl rfl ?_
  rintro _ _ ⟨V6,rfl,hV6,rfl,hb6⟩
  simp only[cA,cN]
  refine AM.ok ?_
  dsimp only[a0q]
  refine xN _ (fun w0 R0=> ?_)
  refine AO.callMG 1 rfl rfl Tryz.func24 rfl rfl rfl rfl rfl rfl (g0K _ l _ 4 hl (by assumption) (by omega)) ?_
  rintro _ _ ⟨⟨x7,hx7,rfl⟩,kd7,hkd7,rfl⟩
  dsimp only[cA,cN,List.eraseIdx]
  refine AM.ok ?_
  dsimp only[a0q]
  refine xk ?_
  refine xN _ (fun w0 R0=> ?_)
  refine zy 1 ?_
  intro V8 hV8
  refine AO.g ?_
  refine yQ 1 [26] ?_
  refine AO.u ?_
  dsimp only[List.map,List.eraseIdx,cA,cN]
  refine AM.ok ?_
  dsimp only[a0q]
  refine vd ?_
  try dsimp only[cA,cN]
  refine vL ?_
  try dsimp only[List.eraseIdx]
  refine vQ rfl (O.call rfl Tryz.func25 rfl rfl rfl (u0W (m:=⟨ty,code,id,tok,os,pay⟩) (n:=drL.getD z5.toNat 0) (vs:=b0I os (drL.getD z5.toNat 0)++[x7]) (N:=(b0I os (drL.getD z5.toNat 0)).length+1) (xs:=bsA (b0I os (drL.getD z5.toNat 0))++[roB x7]) (by rw[cH];rfl) (f0K _ _).symm (by show tok.length≤_;omega) (by show pay.length≤_;omega) (by show os.length≤100000;omega) (by rw[cH];simp only[cL,cE];omega) ho.1.big (ho.1.vals (by omega)))) ?_
  refine vd ?_
  try dsimp only[cA,cN]
  refine AMS.go (by exact(by exact a0K 3 2 rfl rfl a0g)) ?_
  try dsimp only[List.eraseIdx]
  refine xN _ (fun w0 R0=> ?_)
  refine za 0 (vI ?_)
  dsimp only[a0q]
  refine vd ?_
  try dsimp only[cA,cN]
  refine AMS.nil (xE (zn (zr ?_)))
  refine zb ?_
  refine yN ?_
  refine zc (zJ ?_)
  rw[show((j+1:Nat):Int)-1=(j:Int) by omega]
  have hadd:=ho.add (v0J hz05 hz15) (v:=x7) (by omega)
  rw[show 5-(j+1)+1=5-j by omega]at hadd
  refine xG _ _ _ (by omega) (⟨j,_,_,by omega,hadd,‹_›,rfl,rfl,rfl⟩)
 obtain rfl:c=0:=by omega
 refine wj ?_
 refine x8 ?_
 refine wd ?_
 refine xD (zn (zD (zr ?_)))
 refine zA ?_
 refine za 1 (zJ (zn (xj ?_)))
 refine AQ.retCell rfl rfl mM (by(dsimp only[List.set,cA,cN,List.take,List.drop];rfl)) rfl ⟨_,by repeat(first|exact List.Sublist.slnil|refine List.Sublist.cons_cons _ ?_|refine List.Sublist.cons _ ?_),List.Perm.refl _⟩ (⟨⟨os,ho,rfl⟩,kk,hkk,rfl⟩)
def rqL:List Int:= [69,68,65,132,129,160,95]
def DM (q:Bool)(m:Msg):Prop:=(0≤m.ty∧m.ty≤2)∧(if q=true then 1≤m.code∧m.code≤7 else m.code∈rqL)∧(0≤m.id∧m.id<65536)∧(m.tok.length≤4∧m.pay.length≤20)∧Dr 5 m.opts
def y0x (q:Bool)(r:AV):Prop:= ∃m,DM q m∧r=b0c m
theorem DM.code {q:Bool}{m:Msg}(h:DM q m):s0z m.code∧rq m.code=q∧rs m.code= !q:=by
 obtain⟨-,h, -⟩:=h
 cases q
 ·rw[if_neg (by simp)]at h
  have: ∀c∈rqL,(0≤c∧c≤255∧(c/32=0∨c/32=2∨c/32=4∨c/32=5))∧rq c=false∧rs c=true:=by decide
  exact this _ h
 rw[if_pos rfl]at h
 refine⟨⟨by omega,by omega,?_⟩,?_,?_⟩
 ·unfold i0D;omega
 ·unfold rq;rw[decide_eq_true h.1,decide_eq_true (show m.code≤31 by omega)];rfl
 unfold rs;exact decide_eq_false (by omega)
theorem DM.val {q:Bool}{m:Msg}(h:DM q m):ValM m:=by
 obtain⟨c1, -, -⟩:=h.code
 obtain⟨h1,h2,h3,h4,h5⟩:=h
 have hn0:m.code≠0:=by
  cases q
  ·rw[if_neg (by simp)]at h2
   have: ∀c∈rqL,c≠0:=by decide
   exact this _ h2
  rw[if_pos rfl]at h2;omega
 refine⟨⟨⟨h1.1,by omega,c1.1,c1.2.1,c1.2.2⟩,⟨h3.1,by omega,by omega,by have:=h5.1.2.1;omega⟩,h5.1.1,fun h=>absurd h hn0,fun h=>by omega,by omega⟩,?_⟩
 have:=g0h (m:=m) (by omega) h4.2 h5.1.2.1 h5.1.1 h5.1.2.2
 omega
theorem y0B {ty code id:Int}{x p:List UInt8}:Coe (.agg [.val (.int .i64 ty),.val (.int .i64 code),.val (.int .i64 id),roB x,.val (.slice none 0 0),roB p]) (b0c ⟨ty,code,id,x,[],p⟩):=
 Coe.agg (.cons .rfl (.cons .rfl (.cons .rfl (.cons .rfl (.cons .nil (.cons .rfl .nil))))))
theorem k0l (b:Nat)(l:List Int)(k:Nat)(hl:l.length≤maxLen)(hk:k≤l.length):Sp Tryz.prog 13 [ptr b] [g0Y b l k] (Gen b l (y0x true)):=by
 skip
 refine yX Tryz.func13 _ Tryz.ntmps13 (fun w0 R0=> ?_)
 refine zD (zr ?_)
 refine zd ?_
 intro B1
 refine zJ (zn (zD (zr ?_)))
 refine zb ?_
 refine AO.callMG 1 rfl rfl Tryz.func33 rfl rfl rfl rfl rfl rfl (b0q _ l _ _ hl (by assumption) (by omega) (by omega)) ?_
 rintro _ _ ⟨⟨z2,hz02,hz12,rfl⟩,kd2,hkd2,rfl⟩
 dsimp only[cA,cN,List.eraseIdx]
 refine zb ?_
 refine AO.callMG 0 rfl rfl Tryz.func33 rfl rfl rfl rfl rfl rfl (b0q _ l _ _ hl (by assumption) (by omega) (by omega)) ?_
 rintro _ _ ⟨⟨z3,hz03,hz13,rfl⟩,kd3,hkd3,rfl⟩
 dsimp only[cA,cN,List.eraseIdx]
 refine zB ?_
 refine zb ?_
 refine AO.callMG 0 rfl rfl Tryz.func33 rfl rfl rfl rfl rfl rfl (b0q _ l _ _ hl (by assumption) (by omega) (by omega)) ?_
 rintro _ _ ⟨⟨z4,hz04,hz14,rfl⟩,kd4,hkd4,rfl⟩
 dsimp only[cA,cN,List.eraseIdx]
 refine zb ?_
 refine AO.callMG 0 rfl rfl Tryz.func24 rfl rfl rfl rfl rfl rfl (g0K _ l _ 4 hl (by assumption) (by omega)) ?_
 rintro _ _ ⟨⟨x5,hx5,rfl⟩,kd5,hkd5,rfl⟩
 dsimp only[cA,cN,List.eraseIdx]
 refine zb ?_
 refine AO.callMG 0 rfl rfl Tryz.func24 rfl rfl rfl rfl rfl rfl (g0K _ l _ 20 hl (by assumption) (by omega)) ?_
 rintro _ _ ⟨⟨x6,hx6,rfl⟩,kd6,hkd6,rfl⟩
 dsimp only[cA,cN,List.eraseIdx]
 refine zP ?_
 refine zd ?_
 intro B7
 refine za 0 (zJ (zn (zD (zr ?_))))
 refine zb ?_
 refine zC ?_
 refine AO.g ?_
 refine G.coe 17 rfl y0B ?_
 refine AO.u ?_
 refine AO.callMG 1 rfl rfl Tryz.func56 rfl rfl rfl rfl rfl rfl (k0K _ l _ ⟨z2,1+z3,z4,x5,[],x6⟩ hl (by assumption) rfl (by simp only;omega) (by simp only;omega)) ?_
 rintro _ _ ⟨⟨os8,hos8,rfl⟩,kd8,hkd8,rfl⟩
 dsimp only[cA,cN,List.eraseIdx]
 refine za 2 (zJ (zn (xj ?_)))
 have hdm:DM true ⟨z2,1+z3,z4,x5,os8,x6⟩:=⟨⟨hz02,by simp only;omega⟩,by rw[if_pos rfl];simp only;omega,⟨hz04,hz14⟩,⟨hx5,hx6⟩,hos8⟩
 refine AQ.retCell rfl rfl mM (by(dsimp only[List.set,cA,cN,List.take,List.drop];rfl)) rfl ⟨_,by repeat(first|exact List.Sublist.slnil|refine List.Sublist.cons_cons _ ?_|refine List.Sublist.cons _ ?_),List.Perm.refl _⟩ (⟨⟨_,hdm,rfl⟩,_,hkd8,rfl⟩)
 skip
end Go.Proofs.YtojomcdjcpmnkaaGreat.By
namespace Go.Proofs.YtojomcdjcpmnkaaGreat.By
open Go.RowKit L A
attribute [local irreducible] AW AQ AO
theorem q0R (m:Msg)(os:List Opt)(h1:m.tok.length≤140737488355328)(h2:m.pay.length≤140737488355328)(h3:os.length≤1000000)(hat: ∀o∈os,o.val.length≤140737488355328):
  Sp Tryz.prog 161 [b0c m,roO os] [] (Is (b0c ⟨m.ty,m.code,m.id,m.tok,os,m.pay⟩)):=by
 refine yX Tryz.func161 _ Tryz.ntmps161 (fun w0 R0=> ?_)
 refine zD (zr ?_)
 refine yo ?_
 intro B1
 refine zd ?_
 intro B2
 refine zJ (zn (zD ?_))
 refine yA 7 ?_
 simp only[cT,cZ,cD,cO]
 refine yw ?_
 refine zM ?_
 refine vP (xM rfl Tryz.func138 rfl rfl rfl (d0L _ (by assumption))) ?_
 refine yw ?_
 refine zM ?_
 refine vP (xM rfl Tryz.func138 rfl rfl rfl (d0L _ (by assumption))) ?_
 refine yw ?_
 refine vb ?_
 simp only[a0h,cN,cA,cP]
 refine za 1 ?_
 refine zq ?_
 refine za 1 (zJ (zn (zD (zr ?_))))
 refine zq ?_
 refine za 1 (zJ (zn (zD (zD (zr ?_)))))
 refine zb ?_
 refine zX ?_
 refine zb (zJ (zn (xo ?_)))
 refine AW.g ?_
 refine G.nilRow 96 2 ?_
 refine AW.u ?_
 refine zi [(2,_),(4,_),(16,_),(17,_)] (fun nn E H=> ∃(k:Nat) (V:Value),(k≤os.length)∧(V.oneCell'=true)∧nn=os.length-k∧E= [(18,.val (.int .i64 (k:Int)))]∧H= [.row V 96 2 k (a0z (os.take k)),.blk B2 29 6 [.val (.int .i64 0),.val (.int .i64 0),.val (.int .i64 0),.val (.slice none 0 0),.val (.slice none 0 0),.val (.slice none 0 0)],.blk B1 29 6 [.val (.int .i64 m.ty),.val (.int .i64 m.code),.val (.int .i64 m.id),roB m.tok,.val V,roB m.pay]]) _ (⟨0,_,by omega,rfl,rfl,rfl,rfl⟩) ?_
 rintro nn E H ⟨k,V,h4,hV,rfl,rfl,rfl⟩
 dsimp only[cA,cN]
 refine zD (zr ?_)
 refine zT (zJ (zn (zD ?_)))
 refine yt (fun h5=> ?_) (fun h5=> ?_)<;>(try simp only[vT]at h5)
 ·have hk:k<os.length:=by omega
  have hv:(oat os k).val.length≤140737488355328:=hat _ (b0m Opt.none hk)
  have hsc:a0z (os.take (k+1))=a0z (os.take k)++[.val (.int .i64 (oat os k).num),roB (oat os k).val]:=by rw[a0i Opt.none hk,a0D]
  refine y6 (zn (zD (xo (zD (zr ?_)))))
  refine ye ?_
  refine y3 ?_
  refine zd ?_
  intro B3
  refine za 0 (zJ (zn ?_))
  refine yA 9 ?_
  simp only[cT,cZ,cD,cO]
  refine yw ?_
  refine zM ?_
  refine yw ?_
  refine yU ?_
  refine yw ?_
  refine yU ?_
  refine vP (xM rfl Tryz.func138 rfl rfl rfl (d0L _ (by assumption))) ?_
  refine x0 ?_
  refine vP y9 ?_
  refine vb ?_
  simp only[a0h,cN,cA,cP]
  refine zy 1 ?_
  intro V4 hV4
  refine zq ?_
  refine yF 3 (zJ (xE (zn (zr ?_))))
  refine zB ?_
  refine zb (zJ ?_)
  refine zL _ _ _ (by omega) (⟨k+1,_,by omega,‹_›,rfl,rfl,by rw[hsc]⟩)
 obtain rfl:k=os.length:=by omega
 rw[List.take_length]
 refine AW.g ?_
 refine G.freezeCell 0 1 4 rfl rfl rfl ?_
 refine AW.u ?_
 refine wj ?_
 refine x8 ?_
 refine wd ?_
 refine xD (zn (zD (zr ?_)))
 refine zA ?_
 refine za 0 (zJ (zn (xj ?_)))
 refine AQ.retCell rfl rfl (by repeat(exact List.Mem.head _)) (by(dsimp only[List.set,cA,cN,List.take,List.drop];rfl)) rfl nS (⟨rfl,rfl⟩)
theorem q0Q {m:Msg}{os:List Opt}{N:Nat}{xs:List AV}(e1:N=os.length)(e2:xs=a0z os)(h1:m.tok.length≤140737488355328)(h2:m.pay.length≤140737488355328)(h3:os.length≤1000000)(hat: ∀o∈os,o.val.length≤140737488355328):
  Sp Tryz.prog 161 [b0c m,.ro false N xs] [] (Is (b0c ⟨m.ty,m.code,m.id,m.tok,os,m.pay⟩)):=by
 subst e1;subst e2;exact q0R m os h1 h2 h3 hat
theorem t0v (m:Msg)(n:Int)(vs:List (List UInt8))(h1:m.tok.length≤140737488355328)(h2:m.pay.length≤140737488355328)(h3:m.opts.length≤100000)(h4:vs.length≤100000)(hat: ∀o∈m.opts,o.val.length≤140737488355328)(hvs: ∀v∈vs,v.length≤140737488355328):
  Sp Tryz.prog 118 [b0c m,.val (.int .i64 n),u0v vs] [] (Is (b0c ⟨m.ty,m.code,m.id,m.tok,e0O m.opts n vs,m.pay⟩)):=by
 have hat2: ∀o∈e0O m.opts n vs,o.val.length≤140737488355328:=fun o ho=>by
  rcases d0E ho with h|⟨v,h,rfl⟩
  ·exact hat o h
  exact hvs v h
 have hsl:=h0Q m.opts n vs
 refine yX Tryz.func118 _ Tryz.ntmps118 (fun w0 R0=> ?_)
 refine zD (zr ?_)
 refine yo ?_
 intro B1
 refine zd ?_
 intro B2
 refine zJ (zn (zD (zr ?_)))
 refine zc ?_
 refine zc (zJ (zn (zD (zD (zr ?_)))))
 refine zq ?_
 refine zp ?_
 refine zX ?_
 refine zb (zJ (zn (xo ?_)))
 refine AW.g ?_
 refine G.nilRow 96 2 ?_
 refine AW.u ?_
 refine AW.g ?_
 refine G.nilRow 96 2 ?_
 refine AW.u ?_
 refine zi [(1,_),(2,_),(3,_),(6,_),(14,_),(15,_)] (fun nn E H=> ∃(k:Nat) (V V':Value),(k≤m.opts.length)∧(V.oneCell'=true)∧(V'.oneCell'=true)∧nn=m.opts.length-k∧E= [(7,.val V),(8,.val V'),(16,.val (.int .i64 (k:Int)))]∧H= [.row V 96 2 (ltO (m.opts.take k) n).length (a0z (ltO (m.opts.take k) n)),.row V' 96 2 (gtO (m.opts.take k) n).length (a0z (gtO (m.opts.take k) n)),.blk B2 29 6 [.val (.int .i64 0),.val (.int .i64 0),.val (.int .i64 0),.val (.slice none 0 0),.val (.slice none 0 0),.val (.slice none 0 0)],.blk B1 29 6 [.val (.int .i64 m.ty),.val (.int .i64 m.code),.val (.int .i64 m.id),roB m.tok,roO m.opts,roB m.pay]]) _ (⟨0,_,_,by omega,rfl,rfl,rfl,rfl,rfl⟩) ?_
 rintro nn E H ⟨k,V,V',h5,hV,hV',rfl,rfl,rfl⟩
 dsimp only[cA,cN]
 have hl1:=k0y (m.opts.take k) n
 have hl2:=k0C (m.opts.take k) n
 rw[List.length_take]at hl1 hl2
 refine zD (zr ?_)
 refine zT (zJ (zn (zD ?_)))
 refine yt (fun h6=> ?_) (fun h6=> ?_)<;>(try simp only[vT]at h6)
 ·have hk:k<m.opts.length:=by omega
  have hsc:=l0Q (m.opts.take k) (oat m.opts k) n
  have hsg:=l0T (m.opts.take k) (oat m.opts k) n
  rw[←a0i Opt.none hk]at hsc hsg
  refine y6 (zn (zD (xo (zD (zr ?_)))))
  refine ye ?_
  refine y3 ?_
  refine zd ?_
  intro B3
  refine za 0 (zJ (zn (xo (zD (zr ?_)))))
  refine zq ?_
  refine zv ?_
  refine zb ?_
  refine zT ?_
  refine zc (zJ (zn ?_))
  refine yt (fun h7=> ?_) (fun h7=> ?_)<;>(try simp only[vT]at h7)
  ·rw[if_pos h7]at hsc
   rw[if_neg (by omega)]at hsg
   refine zr ?_
   refine zb ?_
   refine zC ?_
   refine zR ?_
   intro B4
   refine AO.g ?_
   refine yi 0 27 ?_
   refine wm 27 ?_
   refine AO.u ?_
   dsimp only[List.eraseIdx]
   refine zy 1 ?_
   intro V5 hV5
   refine zc (zJ (xE (xE (zn (zr ?_)))))
   refine zB ?_
   refine zb (zJ ?_)
   refine zL _ _ _ (by omega) (⟨k+1,_,V',by omega,‹_›,hV',rfl,rfl,by rw[hsc,hsg,a0D,cH]⟩)
  rw[if_neg (by omega)]at hsc
  refine zD (zr ?_)
  refine zq ?_
  refine zv ?_
  refine zb ?_
  refine yZ ?_
  refine zc (zJ (zn ?_))
  refine yt (fun h8=> ?_) (fun h8=> ?_)<;>(try simp only[vT]at h8)
  ·rw[if_pos h8]at hsg
   refine zr ?_
   refine zb ?_
   refine zC ?_
   refine zR ?_
   intro B6
   refine AO.g ?_
   refine yi 0 36 ?_
   refine wm 36 ?_
   refine AO.u ?_
   dsimp only[List.eraseIdx]
   refine zy 2 ?_
   intro V7 hV7
   refine zc (zJ (xE (xE (zn (zr ?_)))))
   refine zB ?_
   refine zb (zJ ?_)
   refine zL _ _ _ (by omega) (⟨k+1,V,_,by omega,hV,‹_›,rfl,rfl,by rw[hsc,hsg,a0D,cH]⟩)
  rw[if_neg (by omega)]at hsg
  refine y6 (xE (xE (zn (zr ?_))))
  refine zB ?_
  refine zb (zJ ?_)
  refine zL _ _ _ (by omega) (⟨k+1,V,V',by omega,hV,hV',rfl,rfl,by rw[hsc,hsg]⟩)
 obtain rfl:k=m.opts.length:=by omega
 rw[List.take_length]at hl1 hl2⊢
 refine wj ?_
 refine x8 ?_
 refine wd ?_
 refine xD (zn (zD (zD (zr ?_))))
 refine zb ?_
 refine zX ?_
 refine zb (zJ (zn (xo ?_)))
 refine zi [(1,_),(3,_),(6,_),(8,_),(39,_),(40,_)] (fun nn E H=> ∃(j:Nat) (V:Value),(j≤vs.length)∧(V.oneCell'=true)∧nn=vs.length-j∧E= [(7,.val V),(41,.val (.int .i64 (j:Int)))]∧H= [.row V 96 2 (ltO m.opts n++eqO n (vs.take j)).length (a0z (ltO m.opts n++eqO n (vs.take j))),.row V' 96 2 (gtO m.opts n).length (a0z (gtO m.opts n)),.blk B2 29 6 [.val (.int .i64 0),.val (.int .i64 0),.val (.int .i64 0),.val (.slice none 0 0),.val (.slice none 0 0),.val (.slice none 0 0)],.blk B1 29 6 [.val (.int .i64 m.ty),.val (.int .i64 m.code),.val (.int .i64 m.id),roB m.tok,roO m.opts,roB m.pay]]) _ (⟨0,_,by omega,hV,rfl,rfl,by rw[show ltO m.opts n++eqO n (vs.take 0)=ltO m.opts n by simp[eqO]]⟩) ?_
 rintro nn E H ⟨j,V,h8,hV,rfl,rfl,rfl⟩
 dsimp only[cA,cN]
 have hl3:(ltO m.opts n++eqO n (vs.take j)).length=(ltO m.opts n).length+j:=by rw[cH,i0t,List.length_take];omega
 refine zD (zr ?_)
 refine zT (zJ (zn (zD ?_)))
 refine yt (fun h9=> ?_) (fun h9=> ?_)<;>(try simp only[vT]at h9)
 ·have hj:j<vs.length:=by omega
  have hsc:ltO m.opts n++eqO n (vs.take (j+1))=(ltO m.opts n++eqO n (vs.take j))++[⟨n,vat vs j⟩]:=by
   rw[a0i [] hj];simp[eqO]
  refine y6 (zn (zD (xo (zD (zr ?_)))))
  refine ye ?_
  refine vO (O.loadR rfl rfl (by exact g0M (by omega) (by omega))) ?_
  refine zc (zJ (zn (zr ?_)))
  refine zb ?_
  refine zb ?_
  refine zb ?_
  refine zP ?_
  refine zR ?_
  intro B8
  refine AO.g ?_
  refine yi 0 49 ?_
  refine wm 49 ?_
  refine AO.u ?_
  dsimp only[List.eraseIdx]
  refine zy 0 ?_
  intro V9 hV9
  refine zc (zJ (xE (zn (zr ?_))))
  refine zB ?_
  refine zb (zJ ?_)
  refine zu _ _ _ (by omega) (⟨j+1,_,by omega,‹_›,rfl,rfl,by rw[hsc,a0D,cH]⟩)
 obtain rfl:j=vs.length:=by omega
 rw[List.take_length]at hl3⊢
 have hlen:(ltO m.opts n++eqO n vs).length+(gtO m.opts n).length=(e0O m.opts n vs).length:=by rw[e0O,List.length_append (bs:=gtO m.opts n)]
 have hcell:a0z (ltO m.opts n++eqO n vs)++a0z (gtO m.opts n)=a0z (e0O m.opts n vs):=by rw[e0O,g0l (ltO m.opts n++eqO n vs)]
 have hone:=b0R (gtO m.opts n)
 refine wj ?_
 refine x8 ?_
 refine wd ?_
 refine xD (zn (zD ?_))
 refine vo [[(0,false),(1,false),(2,false),(3,true)],[(4,false)],[(5,true)]] ?_
 refine vf ?_
 try dsimp only[List.eraseIdx]
 refine zQ ?_
 refine yW ?_
 refine yW ?_
 refine xN _ (fun w0 R0=> ?_)
 refine AO.append' (i:=0) rfl rfl rfl rfl (by rfl) (by rfl) rfl rfl rfl (by exact SrcA.row TyD.ax mM (by(simp;done))) (by assumption) (by(unfold maxLen;omega)) (by omega) (by(dsimp only[List.set,cA,cN,List.take,List.drop];done)) (fun _=>by(dsimp only[List.set];done)) ?_
 intro V10 hV10
 refine AO.g ?_
 refine yQ 0 [55] ?_
 refine AO.u ?_
 dsimp only[List.map,List.eraseIdx,cA,cN]
 refine AM.ok ?_
 dsimp only[a0q]
 refine vd ?_
 try dsimp only[cA,cN]
 refine vL ?_
 try dsimp only[List.eraseIdx]
 refine vQ rfl (O.call rfl Tryz.func161 rfl rfl rfl (q0Q (m:=m) (os:=e0O m.opts n vs) hlen hcell h1 h2 (by omega) hat2)) ?_
 refine vd ?_
 try dsimp only[cA,cN]
 refine AMS.go (by exact(by exact a0K 6 1 rfl rfl a0g)) ?_
 try dsimp only[List.eraseIdx]
 refine xN _ (fun w0 R0=> ?_)
 refine za 0 (vI ?_)
 dsimp only[a0q]
 refine vd ?_
 try dsimp only[cA,cN]
 refine AMS.nil (zn (xj ?_))
 refine AQ.retCell rfl rfl (by repeat(exact List.Mem.head _)) (by(dsimp only[List.set,cA,cN,List.take,List.drop];rfl)) rfl nS (⟨rfl,rfl⟩)
structure Bd where
 ctx:List UInt8
 kid:List UInt8
 piv:Int
abbrev cBd (b:Bd):List AV:= [roB b.ctx,roB b.kid,.val (.int .i64 b.piv)]
abbrev p0S (b:Bd):AV:= .agg (cBd b)
def Bd.none:Bd:=⟨[],[],0⟩
abbrev f0z (n:Int):Prop:=0≤n∧n≤1099511627775
theorem w0J (n:Int):(decide (0≤n)&&decide (n≤1099511627775))=decide (f0z n):=by
 rw[Bool.eq_iff_iff];simp
theorem w0Z (n:Int):(decide (n<0)||decide (1099511627775<n))=decide (¬f0z n):=by
 rw[Bool.eq_iff_iff];simp only[Bool.or_eq_true,cQ];omega
theorem t0D (n:Int):Sp Tryz.prog 58 [.val (.int .i64 n)] [] (Is (.val (.bool (decide (f0z n))))):=by
 have e:=w0J n
 refine yX Tryz.func58 _ Tryz.ntmps58 (fun w0 R0=> ?_)
 refine zD (zr ?_)
 refine zc (zJ (zn (zD (zr ?_))))
 refine zb ?_
 refine wX ?_
 refine zb ?_
 refine yC ?_
 refine xJ 6 ?_
 refine zW ?_
 refine zc (zJ (zn (xj ?_)))
 refine vz rfl rfl nS (⟨congrArg (fun z=>AV.val (.bool z)) e,rfl⟩)
theorem t0e (n:Int):Sp Tryz.prog 64 [.val (.int .i64 n)] [] (Is (.val (.bool (decide (¬f0z n))))):=by
 have e:=w0Z n
 refine yX Tryz.func64 _ Tryz.ntmps64 (fun w0 R0=> ?_)
 refine zD (zr ?_)
 refine zc (zJ (zn (zD (zr ?_))))
 refine zb ?_
 refine zT ?_
 refine zb ?_
 refine yC ?_
 refine yB 6 ?_
 refine zI ?_
 refine zc (zJ (zn (xj ?_)))
 refine vz rfl rfl nS (⟨congrArg (fun z=>AV.val (.bool z)) e,rfl⟩)
abbrev p0X (n:Int):Prop:=1≤n∧n≤31
theorem o0K (n:Int):Sp Tryz.prog 57 [.val (.int .i64 n)] [] (Is (.val (.bool (decide (p0X n))))):=by
 have e:(decide (1≤n)&&decide (n≤31))=decide (p0X n):=by rw[Bool.eq_iff_iff];simp
 refine yX Tryz.func57 _ Tryz.ntmps57 (fun w0 R0=> ?_)
 refine zD (zr ?_)
 refine zc (zJ (zn (zD (zr ?_))))
 refine zb ?_
 refine wX ?_
 refine zb ?_
 refine yC ?_
 refine xJ 6 ?_
 refine zW ?_
 refine zc (zJ (zn (xj ?_)))
 refine vz rfl rfl nS (⟨congrArg (fun z=>AV.val (.bool z)) e,rfl⟩)
theorem l0F (a b:List UInt8):Sp Tryz.prog 92 [roB a,roB b] [] (Is (.val (.bool (a==b)))):=by
 refine yX Tryz.func92 _ Tryz.ntmps92 (fun w0 R0=> ?_)
 refine zD (zr ?_)
 refine zc (zJ (zn (zD (zr ?_))))
 refine zb ?_
 refine vO (O.convS rfl rfl (by rfl)) ?_
 refine zb ?_
 refine vO (O.convS rfl rfl (by rfl)) ?_
 refine vO (O.eqlS rfl rfl rfl (by rfl)) ?_
 refine zc (zJ (zn (xj ?_)))
 refine vz rfl rfl nS (⟨by rw[a0X,a0X],rfl⟩)
theorem h0r (l:List UInt8)(hl:l.length≤1000000):Sp Tryz.prog 62 [roB l] [] (Is (roB l)):=by
 refine yX Tryz.func62 _ Tryz.ntmps62 (fun w0 R0=> ?_)
 refine zD (zr ?_)
 refine zc (zJ (zn (zD (zr ?_))))
 refine zb ?_
 refine yH ?_
 intro V1 hV1
 refine zc (zJ (zn (xj ?_)))
 refine AQ.g ?_
 refine yf 0 [2] ?_
 refine AQ.u ?_
 try dsimp only[List.map,List.eraseIdx,cA,cN]
 refine yM
def u0i (c:Cx)(b:Bd)(id:List UInt8)(piv:Int):List UInt8:=if piv= -1 then(b0S c.com b.kid b.piv).1 else(b0S c.com id piv).1
def a0C (m:Msg):Cmp×Int:=match b0I m.opts 9 with
 | []=>(.zero,10)
 | [v]=>p0x v
 |_=>(.zero,7)
theorem o0r {m:Msg}(h:(b0I m.opts 9).length=0):a0C m=(.zero,10):=by
 unfold a0C;rw[List.eq_nil_of_length_eq_zero h]
theorem o0q {m:Msg}(h:(b0I m.opts 9).length=1):a0C m=p0x (vat (b0I m.opts 9) 0):=by
 unfold a0C
 generalize b0I m.opts 9=l at*
 match l,h with
 | [v],_=>rfl
theorem o0p {m:Msg}(h0:(b0I m.opts 9).length≠0)(h1:(b0I m.opts 9).length≠1):a0C m=(.zero,7):=by
 unfold a0C
 generalize b0I m.opts 9=l at*
 match l,h0,h1 with
 |x::y::l,_,_=>rfl
abbrev SmO (m:Msg):Prop:=m.opts.length≤1000000∧ ∀o∈m.opts,o.val.length≤140737488355328
theorem q0u (m:Msg)(h:SmO m):Sp Tryz.prog 22 [b0c m] [] (Is (u0Z (a0C m))):=by
 refine yX Tryz.func22 _ Tryz.ntmps22 (fun w0 R0=> ?_)
 refine zD (zr ?_)
 refine yo ?_
 intro B1
 refine zd ?_
 intro B2
 refine zc (zJ (zn (zD (zr ?_))))
 refine zA ?_
 refine vO (xM rfl Tryz.func71 rfl rfl rfl (v0V _ _ h.1 h.2)) ?_
 refine zc (zJ (zn (zD (xo (zD (zr ?_))))))
 refine zb ?_
 refine zX ?_
 refine z8 ?_
 refine zc (zJ (zn ?_))
 refine yt (fun h0=> ?_) (fun h0=> ?_)<;>(try simp only[vT]at h0)
 ·rw[o0r (by omega)]
  refine zD (zr ?_)
  refine zP ?_
  refine za 0 ?_
  refine zc (zJ (zn (xj ?_)))
  refine ww (xx ?_)
  refine wa yd zl (⟨rfl,rfl⟩)
 refine zD (zr ?_)
 refine zb ?_
 refine zX ?_
 refine yZ ?_
 refine zc (zJ (zn ?_))
 refine yt (fun h1=> ?_) (fun h1=> ?_)<;>(try simp only[vT]at h1)
 ·rw[o0p (by omega) (by omega)]
  refine zD (zr ?_)
  refine zP ?_
  refine za 0 ?_
  refine zc (zJ (zn (xj ?_)))
  refine ww (xx ?_)
  refine wa yd zl (⟨rfl,rfl⟩)
 rw[o0q (by omega)]
 refine y6 (xE (zn (zD (zr ?_))))
 refine zb ?_
 refine ye ?_
 refine vO (O.loadR rfl rfl (by exact g0M (k:=0) (by omega) rfl)) ?_
 refine vO (xM rfl Tryz.func72 rfl rfl rfl (k0q _)) ?_
 refine zK ?_
 refine zK ?_
 refine za 0 ?_
 refine zc (zJ (zn (xj ?_)))
 refine AQ.retCT rfl rfl rfl (by repeat(exact List.Mem.head _)) (by rfl) rfl nS (⟨rfl,rfl⟩)
theorem p0Q (os:List Opt)(n:Int)(k:Nat):(b0I (os.take k) n).length≤k:=Nat.le_trans (d0Q _ _) (by rw[List.length_take];omega)
theorem q0S (m:Msg)(h:SmO m):Sp Tryz.prog 21 [b0c m] [] (Is (u0Z (a0C m))):=by
 obtain⟨h3,hat⟩:=h
 refine yX Tryz.func21 _ Tryz.ntmps21 (fun w0 R0=> ?_)
 refine zD (zr ?_)
 refine yo ?_
 intro B1
 refine zd ?_
 intro B2
 refine zc (zJ (zn (zD (zr ?_))))
 refine zc (zJ (zn (zD (zD (zr ?_)))))
 refine zq ?_
 refine zp ?_
 refine zX ?_
 refine zb (zJ (zn (xo ?_)))
 refine AW.g ?_
 refine G.nilRow 22 1 ?_
 refine AW.u ?_
 refine zi [(2,_),(8,_),(9,_)] (fun nn E H=> ∃(k:Nat) (V:Value),(k≤m.opts.length)∧(V.oneCell'=true)∧nn=m.opts.length-k∧E= [(4,.val V),(10,.val (.int .i64 (k:Int)))]∧H= [.row V 22 1 (b0I (m.opts.take k) 9).length (bsA (b0I (m.opts.take k) 9)),.blk B2 52 6 [.val (.int .i64 0),.val (.bool false),.val (.slice none 0 0),.val (.bool false),.val (.slice none 0 0),.val (.bool false)],.blk B1 29 6 [.val (.int .i64 m.ty),.val (.int .i64 m.code),.val (.int .i64 m.id),roB m.tok,roO m.opts,roB m.pay]]) _ (⟨0,_,by omega,rfl,rfl,rfl,rfl⟩) ?_
 rintro nn E H ⟨k,V,h4,hV,rfl,rfl,rfl⟩
 dsimp only[cA,cN]
 have hl:=p0Q m.opts 9 k
 refine zD (zr ?_)
 refine zT (zJ (zn (zD ?_)))
 refine yt (fun h5=> ?_) (fun h5=> ?_)<;>(try simp only[vT]at h5)
 ·have hk:k<m.opts.length:=by omega
  have hsc:=g0P (m.opts.take k) (oat m.opts k) 9
  rw[←a0i Opt.none hk]at hsc
  refine y6 (zn (zD (xo (zD (zr ?_)))))
  refine ye ?_
  refine y3 ?_
  refine zd ?_
  intro B3
  refine za 0 (zJ (zn (zD (zr ?_))))
  refine zq ?_
  refine zv ?_
  refine z8 (zJ (zn ?_))
  refine yt (fun h6=> ?_) (fun h6=> ?_)<;>(try simp only[vT]at h6)
  ·rw[if_pos h6]at hsc
   refine zr ?_
   refine zb ?_
   refine zq ?_
   refine zv ?_
   refine zR ?_
   intro B4
   refine AO.g ?_
   refine yi 0 20 ?_
   refine wm 20 ?_
   refine AO.u ?_
   dsimp only[List.eraseIdx]
   refine zy 1 ?_
   intro V5 hV5
   refine zc (zJ (xE (zn (zr ?_))))
   refine zB ?_
   refine zb (zJ ?_)
   refine zL _ _ _ (by omega) (⟨k+1,_,by omega,‹_›,rfl,rfl,by rw[hsc,f0K,cH]⟩)
  rw[if_neg h6]at hsc
  refine y6 (xE (zn (zr ?_)))
  refine zB ?_
  refine zb (zJ ?_)
  refine zL _ _ _ (by omega) (⟨k+1,V,by omega,hV,rfl,rfl,by rw[hsc]⟩)
 obtain rfl:k=m.opts.length:=by omega
 rw[List.take_length]at*
 refine AW.g ?_
 refine yf 0 [4] ?_
 refine AW.u ?_
 try dsimp only[List.map,List.eraseIdx,cA,cN]
 refine wj ?_
 refine x8 ?_
 refine wd ?_
 refine xD (zn (zD (zD (zr ?_))))
 refine zb ?_
 refine zX (zJ (zn (xo (zD (zr ?_)))))
 refine z8 ?_
 refine zc (zJ (zn ?_))
 refine yt (fun h0=> ?_) (fun h0=> ?_)<;>(try simp only[vT]at h0)
 ·rw[o0r (by omega)]
  refine zD (zr ?_)
  refine zP ?_
  refine za 0 ?_
  refine zc (zJ (zn (xj ?_)))
  refine ww (xx ?_)
  refine wa yd zl (⟨rfl,rfl⟩)
 refine zD (zr ?_)
 refine z8 ?_
 refine zc (zJ (zn ?_))
 refine yt (fun h1=> ?_) (fun h1=> ?_)<;>(try simp only[vT]at h1)
 ·rw[o0q (by omega)]
  refine zD (zr ?_)
  refine zb ?_
  refine ye ?_
  refine vO (O.loadR rfl rfl (by exact g0M (k:=0) (by omega) rfl)) ?_
  refine vO (xM rfl Tryz.func70 rfl rfl rfl (n0i _)) ?_
  refine zK ?_
  refine zK ?_
  refine za 0 ?_
  refine zc (zJ (zn (xj ?_)))
  refine ww (xx ?_)
  refine AQ.retCT rfl rfl rfl (by repeat(exact List.Mem.head _)) (by rfl) rfl nS (⟨rfl,rfl⟩)
 rw[o0p (by omega) (by omega)]
 refine y6 (xE (zn (zD (zr ?_))))
 refine zP ?_
 refine za 0 ?_
 refine zc (zJ (zn (xj ?_)))
 refine wa yd zl (⟨rfl,rfl⟩)
set_option maxHeartbeats 8000000 in
theorem o0c (m:Msg):Sp Tryz.prog 65 [b0c m] [] (Is (w0z (a0u m))):=by
 have bT: ∀{b:Bool},b=true→rq m.code=b→True:=fun _ _=>trivial
 refine yX Tryz.func65 _ Tryz.ntmps65 (fun w0 R0=> ?_)
 refine zD (zr ?_)
 refine yo ?_
 intro B1
 refine zd ?_
 intro B2
 refine zd ?_
 intro B3
 refine zc (zJ (zn (zD (zD (zr ?_)))))
 refine zq ?_
 refine zp ?_
 refine vO (xM rfl Tryz.func63 rfl rfl rfl (b0N m.code)) ?_
 refine xu ?_
 refine zb ?_
 refine zN ?_
 refine yn 20 ?_
 refine AO.opG rfl rfl rfl (fun hp=>ve 21 rfl (by exact hp) (xM rfl Tryz.func83 rfl rfl rfl (c0e m.code))) ?_
 refine xc 22 ?_
 refine zW (zJ (zn ?_))
 refine yt (fun h=> ?_) (fun h=> ?_)<;>(try simp only[vT]at h)
 ·have e:a0u m=(Msg.none,Msg.none,1):=if_neg (by
   rintro⟨hv,hc⟩
   simp[h.1,h.2]at hc)
  refine zD (zr ?_)
  refine zP ?_
  refine zP ?_
  refine za 1 ?_
  refine za 0 ?_
  refine zc (zJ (zn (xj (xx ?_))))
  refine wa yL zl (e0U e)
 have hc:rq m.code=true∨rs m.code=true:=by cases hq:rq m.code<;>simp_all
 refine y6 (zn (zD (zD (zr ?_))))
 refine zA ?_
 refine vO (xM rfl Tryz.func120 rfl rfl rfl (k0m m)) ?_
 refine zb ?_
 refine zK ?_
 refine zK ?_
 refine zc ?_
 refine zc (zJ (zn (zD (zr ?_))))
 refine zb ?_
 refine y2 (zJ (zn ?_))
 refine yt (fun hx=> ?_) (fun hx=> ?_)<;>(try simp only[vT]at hx)
 ·have e:a0u m=(Msg.none,Msg.none,1):=if_neg (fun hv=>by rw[h0x hv.1]at hx;exact hx rfl)
  refine zD (zr ?_)
  refine zP ?_
  refine zP ?_
  refine za 1 ?_
  refine za 0 ?_
  refine zc (zJ (zn (xj (xx ?_))))
  refine wa yL zl (e0U e)
 have hv:ValM m:=Classical.byContradiction fun hv=>by rw[h0y hv]at hx;cases hx
 obtain⟨s1,s2,s3,s4⟩:=hv.sm
 refine y6 (zn (zD ?_))
 refine yA 7 ?_
 simp only[cT,cZ,cD,cO]
 refine yw ?_
 refine zM ?_
 refine yw ?_
 refine zM ?_
 refine vP (xM rfl Tryz.func69 rfl rfl rfl (a0p _ (by omega))) ?_
 refine x0 ?_
 refine yS ?_
 refine vb ?_
 simp only[a0h,cN,cA,cP]
 rintro _ _ ⟨B4,rfl,rfl⟩
 simp only[cA,cN]
 refine za 0 (zJ (zn (zD ?_)))
 refine yA 9 ?_
 simp only[cT,cZ,cD,cO]
 refine yw ?_
 refine zM ?_
 refine yw ?_
 refine zM ?_
 refine yw ?_
 refine zM ?_
 refine vP (xM rfl Tryz.func69 rfl rfl rfl (a0p _ (by omega))) ?_
 refine x0 ?_
 refine yS ?_
 refine vb ?_
 simp only[a0h,cN,cA,cP]
 rintro _ _ ⟨B5,rfl,rfl⟩
 simp only[cA,cN]
 refine za 0 (zJ (zn (zD (zr ?_))))
 refine zc ?_
 refine zc (zJ (zn (zD (zD (zr ?_)))))
 refine zq ?_
 refine zp ?_
 refine zX ?_
 refine zb (zJ (zn (xo ?_)))
 refine AW.g ?_
 refine G.nilRow 96 2 ?_
 refine AW.u ?_
 refine AW.g ?_
 refine G.nilRow 96 2 ?_
 refine AW.u ?_
 refine xQ [(1,_),(2,_),(3,_),(7,_),(8,_),(51,_),(52,_)] (fun nn E H=> ∃(k:Nat) (V V':Value),(k≤m.opts.length)∧(V.oneCell'=true)∧(V'.oneCell'=true)∧nn=m.opts.length-k∧E= [(9,.val (.bool (d0l (m.opts.take k)))),(10,.val (.bool (p0I (m.opts.take k)))),(53,.val (.int .i64 (k:Int)))]∧H= [.row V 96 2 (inL m.code (m.opts.take k)).length (a0z (inL m.code (m.opts.take k))),.row V' 96 2 (e0W (m.opts.take k)).length (a0z (e0W (m.opts.take k))),.blk B4 29 6 [.val (.int .i64 0),.val (.int .i64 m.code),.val (.int .i64 0),.val (.slice none 0 0),.val V,roB m.pay],.blk B5 29 6 [.val (.int .i64 m.ty),.val (.int .i64 0),.val (.int .i64 m.id),roB m.tok,.val V',.val (.slice none 0 0)],.blk B3 29 6 [.val (.int .i64 0),.val (.int .i64 0),.val (.int .i64 0),.val (.slice none 0 0),.val (.slice none 0 0),.val (.slice none 0 0)],.blk B2 29 6 [.val (.int .i64 0),.val (.int .i64 0),.val (.int .i64 0),.val (.slice none 0 0),.val (.slice none 0 0),.val (.slice none 0 0)],.blk B1 29 6 [.val (.int .i64 m.ty),.val (.int .i64 m.code),.val (.int .i64 m.id),roB m.tok,roO m.opts,roB m.pay]]) _ (⟨0,_,_,by omega,rfl,rfl,rfl,rfl,rfl⟩) ?_
 rintro nn E H ⟨k,V,V',hk,hV,hV',rfl,rfl,rfl⟩
 dsimp only[cA,cN]
 have hl1:=p0f m.code (m.opts.take k)
 have hl2:=i0c (m.opts.take k)
 rw[List.length_take]at hl1 hl2
 refine zD (zr ?_)
 refine zT (zJ (zn (zD ?_)))
 refine yt (fun h2=> ?_) (fun h2=> ?_)<;>(try simp only[vT]at h2)
 ·have hkk:k<m.opts.length:=by omega
  have hv4:(oat m.opts k).val.length≤140737488355328:=by have:=s4 k hkk;omega
  have hci:=s0m (oat m.opts k).num
  refine y6 (zn (zD (xo (zD (zr ?_)))))
  refine ye ?_
  refine y3 ?_
  refine zd ?_
  intro B6
  refine za 0 (zJ (zn (zD (zr ?_))))
  refine zq ?_
  refine zv ?_
  refine vO (xM rfl Tryz.func121 rfl rfl rfl (g0g _)) ?_
  refine zc (zJ (zn (zD (zr ?_))))
  refine zb ?_
  refine zb ?_
  refine zN ?_
  refine zw 62 ?_
  refine xe 63 ?_
  refine zI ?_
  refine zb ?_
  refine zN ?_
  refine zw 67 ?_
  refine xe 68 ?_
  refine zI ?_
  refine zc (zJ (zn (zD (zD (zr ?_)))))
  refine zb ?_
  refine y2 (zJ (zn ?_))
  have hb':p0I (m.opts.take (k+1))=(p0I (m.opts.take k)||decide ((oat m.opts k).num=9)||decide ((oat m.opts k).num=35)):=by rw[a0i Opt.none hkk,j0M,Bool.or_assoc];congr 1;exact Bool.decide_or _ _
  have hw':d0l (m.opts.take (k+1))=(d0l (m.opts.take k)||decide ((oat m.opts k).num=6)):=by rw[a0i Opt.none hkk,f0U]
  have hin:=l0S m.code (m.opts.take k) (oat m.opts k)
  have hou:=j0f (m.opts.take k) (oat m.opts k)
  rw[←a0i Opt.none hkk]at hin hou
  refine xY [(1,_),(2,_),(3,_),(7,_),(8,_),(9,_),(10,_),(12,_),(13,_),(51,_),(52,_),(53,_)] (fun E H=> ∃(W:Value),(W.oneCell'=true)∧E= []∧H= [.blk B6 96 2 [.val (.int .i64 (oat m.opts k).num),roB (oat m.opts k).val],.row W 96 2 (inL m.code (m.opts.take (k+1))).length (a0z (inL m.code (m.opts.take (k+1)))),.row V' 96 2 (e0W (m.opts.take k)).length (a0z (e0W (m.opts.take k))),.blk B4 29 6 [.val (.int .i64 0),.val (.int .i64 m.code),.val (.int .i64 0),.val (.slice none 0 0),.val W,roB m.pay],.blk B5 29 6 [.val (.int .i64 m.ty),.val (.int .i64 0),.val (.int .i64 m.id),roB m.tok,.val V',.val (.slice none 0 0)],.blk B3 29 6 [.val (.int .i64 0),.val (.int .i64 0),.val (.int .i64 0),.val (.slice none 0 0),.val (.slice none 0 0),.val (.slice none 0 0)],.blk B2 29 6 [.val (.int .i64 0),.val (.int .i64 0),.val (.int .i64 0),.val (.slice none 0 0),.val (.slice none 0 0),.val (.slice none 0 0)],.blk B1 29 6 [.val (.int .i64 m.ty),.val (.int .i64 m.code),.val (.int .i64 m.id),roB m.tok,roO m.opts,roB m.pay]]) (fun h71=> ?_) (fun h71=> ?_) ?_<;>try(try simp only[vT]at h71)
  ·rw[if_pos (by omega)]at hin
   refine zD (zr ?_)
   refine zq ?_
   refine zv ?_
   refine vO (xM rfl Tryz.func69 rfl rfl rfl (a0p _ (by assumption))) ?_
   refine zc (zJ (zn (zD (zD (zr ?_)))))
   refine zq ?_
   refine zv ?_
   refine z8 ?_
   refine zb ?_
   refine zN ?_
   refine yn 80 ?_
   refine AO.opG rfl rfl rfl (fun hp=>ve 81 rfl (by exact hp) (xM rfl Tryz.func83 rfl rfl rfl (c0e m.code))) ?_
   refine zW (zJ (zn ?_))
   refine yt (fun h81=> ?_) (fun h81=> ?_)<;>(try simp only[vT]at h81)
   ·have hi2:inO m.code (oat m.opts k)=⟨(oat m.opts k).num,[]⟩:=if_pos h81
    rw[hi2]at hin
    refine zr ?_
    refine zc (zJ (zn (zr ?_)))
    refine zq ?_
    refine zp ?_
    refine zq ?_
    refine zv ?_
    refine zb ?_
    refine zP ?_
    refine zR ?_
    intro B7
    refine AO.g ?_
    refine yi 0 90 ?_
    refine wm 90 ?_
    refine AO.u ?_
    dsimp only[List.eraseIdx]
    refine zy 1 ?_
    intro V8 hV8
    refine zq ?_
    refine yF 3 (zJ ?_)
    refine AQ.g ?_
    refine G.coeRow 1 _ (a0z (inL m.code (m.opts.take k))++[.val (.int .i64 (oat m.opts k).num),roB []]) rfl rfl (CoeL.app CoeL.refl (CoeL.cons Coe.rfl (CoeL.cons Coe.nil CoeL.nil))) ?_
    refine AQ.u ?_
    refine xw _ _ (⟨_,‹_›,rfl,by rw[hin,a0D,cH]⟩)
   have hi2:inO m.code (oat m.opts k)=oat m.opts k:=if_neg (fun hh=>by have:=h81 hh.1;rw[hh.2]at this;cases this)
   rw[hi2]at hin
   refine y6 (zn (zr ?_))
   refine zq ?_
   refine zp ?_
   refine zq ?_
   refine zv ?_
   refine zb ?_
   refine zP ?_
   refine zR ?_
   intro B9
   refine AO.g ?_
   refine yi 0 90 ?_
   refine wm 90 ?_
   refine AO.u ?_
   dsimp only[List.eraseIdx]
   refine zy 1 ?_
   intro V10 hV10
   refine zq ?_
   refine yF 3 (zJ ?_)
   refine xw _ _ (⟨_,‹_›,rfl,by rw[hin,a0D,cH]⟩)
  ·rw[if_neg (by omega)]at hin
   refine y6 ?_
   refine xw _ _ (⟨V,hV,rfl,by rw[hin]⟩)
  rintro E1 H1 ⟨W,hW,rfl,rfl⟩
  dsimp only[cA,cN]
  refine zn (zD (zD (zr ?_)))
  refine zb ?_
  refine z8 ?_
  refine zb ?_
  refine zN ?_
  refine zw 96 ?_
  refine xe 97 ?_
  refine zI (zJ (zn ?_))
  refine xY [(1,_),(2,_),(3,_),(7,_),(8,_),(9,_),(10,_),(12,_),(51,_),(52,_),(53,_)] (fun E H=> ∃(W':Value),(W'.oneCell'=true)∧E= []∧H= [.blk B6 96 2 [.val (.int .i64 (oat m.opts k).num),roB (oat m.opts k).val],.row W 96 2 (inL m.code (m.opts.take (k+1))).length (a0z (inL m.code (m.opts.take (k+1)))),.row W' 96 2 (e0W (m.opts.take (k+1))).length (a0z (e0W (m.opts.take (k+1)))),.blk B4 29 6 [.val (.int .i64 0),.val (.int .i64 m.code),.val (.int .i64 0),.val (.slice none 0 0),.val W,roB m.pay],.blk B5 29 6 [.val (.int .i64 m.ty),.val (.int .i64 0),.val (.int .i64 m.id),roB m.tok,.val W',.val (.slice none 0 0)],.blk B3 29 6 [.val (.int .i64 0),.val (.int .i64 0),.val (.int .i64 0),.val (.slice none 0 0),.val (.slice none 0 0),.val (.slice none 0 0)],.blk B2 29 6 [.val (.int .i64 0),.val (.int .i64 0),.val (.int .i64 0),.val (.slice none 0 0),.val (.slice none 0 0),.val (.slice none 0 0)],.blk B1 29 6 [.val (.int .i64 m.ty),.val (.int .i64 m.code),.val (.int .i64 m.id),roB m.tok,roO m.opts,roB m.pay]]) (fun h95=> ?_) (fun h95=> ?_) ?_<;>try(try simp only[vT]at h95)
  ·rw[if_pos h95]at hou
   refine yA 9 ?_
   simp only[cT,cZ,cD,cO]
   refine yw ?_
   refine zM ?_
   refine yw ?_
   refine yU ?_
   refine yw ?_
   refine yU ?_
   refine vP (xM rfl Tryz.func69 rfl rfl rfl (a0p _ (by assumption))) ?_
   refine x0 ?_
   refine vP y9 ?_
   refine vb ?_
   simp only[a0h,cN,cA,cP]
   refine zy 2 ?_
   intro V11 hV11
   refine zq ?_
   refine yF 4 (zJ ?_)
   refine xw _ _ (⟨_,‹_›,rfl,by rw[hou,a0D,cH]⟩)
  ·rw[if_neg (by omega)]at hou
   refine y6 ?_
   refine xw _ _ (⟨V',hV',rfl,by rw[hou]⟩)
  rintro E1 H1 ⟨W',hW',rfl,rfl⟩
  dsimp only[cA,cN]
  refine zn (zr ?_)
  refine zb ?_
  refine zb ?_
  refine zN ?_
  refine zw 113 ?_
  refine xe 114 ?_
  refine zI ?_
  refine zc (zJ (xE (zn (zr ?_))))
  refine zB ?_
  refine zb (zJ ?_)
  refine zL _ _ _ (by omega) (⟨k+1,W,W',by omega,hW,hW',rfl,by rw[hw',hb'],rfl⟩)
 obtain rfl:k=m.opts.length:=by omega
 rw[List.take_length]at hl1 hl2⊢
 refine wj ?_
 refine x8 ?_
 refine wd ?_
 refine xD (zn (zD (zD (zr ?_))))
 refine zb (zJ (zn ?_))
 refine yt (fun hb=> ?_) (fun hb=> ?_)<;>(try simp only[vT]at hb)
 ·have e:a0u m=(Msg.none,Msg.none,15):=by rw[a0u,if_pos ⟨hv,hc⟩,if_pos hb]
  refine zD (zr ?_)
  refine zP ?_
  refine zP ?_
  refine za 5 ?_
  refine za 4 ?_
  refine zc (zJ (zn (xj (xx ?_))))
  refine wa y5 zl (e0U e)
 have hnb: ¬p0I m.opts=true:=by rw[hb];simp
 have e0:a0u m=(inM m,o0J m,0):=by rw[a0u,if_pos ⟨hv,hc⟩,if_neg hnb]
 refine AW.g ?_
 refine G.freezeCell 0 1 4 rfl rfl rfl ?_
 refine AW.u ?_
 refine AW.g ?_
 refine G.freezeCell 0 1 4 rfl rfl rfl ?_
 refine AW.u (y6 (zn (zD (xo (zD (zr ?_))))))
 refine zq ?_
 refine zp ?_
 refine vO (xM rfl Tryz.func63 rfl rfl rfl (b0N m.code)) ?_
 refine zb ?_
 refine yC ?_
 refine zW ?_
 refine zc (zJ (zn ?_))
 refine yt (fun ha=> ?_) (fun ha=> ?_)<;>(try simp only[vT]at ha)
 ·have e1:j0h m=5:=by rw[j0h,if_pos ha.1,if_pos ha.2]
  have e:a0u m=(inM m,⟨m.ty,5,m.id,m.tok,e0W m.opts,[]⟩,0):=by rw[e0,o0J,e1]
  refine zr ?_
  refine zq ?_
  refine za 1 (zJ (xE (zn (zD ?_))))
  refine wc [(0,false),(1,false),(2,true),(3,true),(4,false)] ?_
  dsimp only[List.eraseIdx]
  refine yJ ?_
  refine zQ ?_
  refine xN _ (fun w0 R0=> ?_)
  refine za 0 (vI ?_)
  dsimp only[a0q]
  refine xN _ (fun w0 R0=> ?_)
  refine za 1 (vI ?_)
  dsimp only[a0q]
  refine wb ?_
  refine vd ?_
  dsimp only[cA,cN]
  refine zn (xj ?_)
  refine wa z6 zl (e0U e)
 refine zD (zr ?_)
 refine zq ?_
 refine zp ?_
 refine vO (xM rfl Tryz.func63 rfl rfl rfl (b0N m.code)) ?_
 refine zc (zJ (zn ?_))
 refine yt (fun hd=> ?_) (fun hd=> ?_)<;>(try simp only[vT]at hd)
 ·have e1:j0h m=2:=by rw[j0h,if_pos hd,if_neg (by rw[ha hd];simp)]
  have e:a0u m=(inM m,⟨m.ty,2,m.id,m.tok,e0W m.opts,[]⟩,0):=by rw[e0,o0J,e1]
  refine zr ?_
  refine zq ?_
  refine za 1 (zJ (xE (zn (zD ?_))))
  refine wc [(0,false),(1,false),(2,true),(3,true),(4,false)] ?_
  dsimp only[List.eraseIdx]
  refine yJ ?_
  refine zQ ?_
  refine xN _ (fun w0 R0=> ?_)
  refine za 0 (vI ?_)
  dsimp only[a0q]
  refine xN _ (fun w0 R0=> ?_)
  refine za 1 (vI ?_)
  dsimp only[a0q]
  refine wb ?_
  refine vd ?_
  dsimp only[cA,cN]
  refine zn (xj ?_)
  refine wa z6 zl (e0U e)
 refine zD (zr ?_)
 refine zb ?_
 refine zc (zJ (zn ?_))
 refine yt (fun hf=> ?_) (fun hf=> ?_)<;>(try simp only[vT]at hf)
 ·have e1:j0h m=69:=by rw[j0h,if_neg (by rw[hd];simp),if_pos hf]
  have e:a0u m=(inM m,⟨m.ty,69,m.id,m.tok,e0W m.opts,[]⟩,0):=by rw[e0,o0J,e1]
  refine zr ?_
  refine zq ?_
  refine za 1 (zJ (xE (zn (zD ?_))))
  refine wc [(0,false),(1,false),(2,true),(3,true),(4,false)] ?_
  dsimp only[List.eraseIdx]
  refine yJ ?_
  refine zQ ?_
  refine xN _ (fun w0 R0=> ?_)
  refine za 0 (vI ?_)
  dsimp only[a0q]
  refine xN _ (fun w0 R0=> ?_)
  refine za 1 (vI ?_)
  dsimp only[a0q]
  refine wb ?_
  refine vd ?_
  dsimp only[cA,cN]
  refine zn (xj ?_)
  refine wa z6 zl (e0U e)
 have e1:j0h m=68:=by rw[j0h,if_neg (by rw[hd];simp),if_neg (by rw[hf];simp)]
 have e:a0u m=(inM m,⟨m.ty,68,m.id,m.tok,e0W m.opts,[]⟩,0):=by rw[e0,o0J,e1]
 refine zr ?_
 refine zq ?_
 refine za 1 (zJ (xE (zn (zD ?_))))
 refine wc [(0,false),(1,false),(2,true),(3,true),(4,false)] ?_
 dsimp only[List.eraseIdx]
 refine yJ ?_
 refine zQ ?_
 refine xN _ (fun w0 R0=> ?_)
 refine za 0 (vI ?_)
 dsimp only[a0q]
 refine xN _ (fun w0 R0=> ?_)
 refine za 1 (vI ?_)
 dsimp only[a0q]
 refine wb ?_
 refine vd ?_
 dsimp only[cA,cN]
 refine zn (xj ?_)
 refine wa z6 zl (e0U e)
end Go.Proofs.YtojomcdjcpmnkaaGreat.By
namespace Go.Proofs.YtojomcdjcpmnkaaGreat.By
open Go.RowKit L A Dk
attribute [local irreducible] AW AQ AO
abbrev prs (b:Nat)(r:List UInt8)(bad:Bool):HE:= .blk b 204 2 [roB r,.val (.bool bad)]
theorem r0s (x y:List UInt8):Sp Tryz.prog 172 [roB x,roB y] [] (Is (.val (.bool (decide (x=y))))):=by
 refine yX Tryz.func172 _ Tryz.ntmps172 (fun w0 R0=> ?_)
 refine zD (zr ?_)
 refine zc (zJ (zn (zD (zr ?_))))
 refine zb ?_
 refine vO (O.convS rfl rfl (by rfl)) ?_
 refine zb ?_
 refine vO (O.convS rfl rfl (by rfl)) ?_
 refine vO (O.eqlS rfl rfl rfl (by rfl)) ?_
 refine zc (zJ (zn (xj ?_)))
 have e:decide (x=y)=(x==y):=g0H (by simp)
 refine vz rfl rfl nS (⟨by rw[a0X,a0X,e],rfl⟩)
theorem n0w (n:Nat):a0x n (.int .u8 0)=a0a (List.replicate n 0):=by
 rw[a0x,show(Value.int IntKind.u8 0).cells.toList.map AV.val= [AV.val (.int .u8 0)]from rfl,List.flatten_replicate_singleton]
 simp[a0a]
theorem x0n {b:Nat}{p q:List UInt8×List UInt8×Bool}(h:q=p){v:AV}(hv:v=roB p.1):IsM (roB q.1) (prs b q.2.1 q.2.2) v [prs b p.2.1 p.2.2]:=by subst h;exact⟨hv,rfl⟩
theorem k0a (b:Nat)(r:List UInt8)(bad:Bool)(n:Int)(hn:0≤n∧n≤1000000):
  Sp Tryz.prog 189 [ptr b,.val (.int .i64 n)] [prs b r bad] (IsM (roB (b0d r bad n).1) (prs b (b0d r bad n).2.1 (b0d r bad n).2.2)):=by
 obtain⟨k,rfl⟩: ∃k:Nat,n=(k:Int):=⟨n.toNat,by omega⟩
 have hmin:(if(4:Int)<(k:Int)then 4 else(k:Int))=((min k 4:Nat):Int):=by split<;>omega
 refine yX Tryz.func189 _ Tryz.ntmps189 (fun w0 R0=> ?_)
 refine zD (zr ?_)
 refine zc (zJ (zn (zD (zD (zr ?_)))))
 refine zb ?_
 refine zb ?_
 refine vA ?_
 refine zq ?_
 refine zv ?_
 refine zX ?_
 refine yZ (zJ (zn ?_))
 refine yt (fun h=> ?_) (fun h=> ?_)<;>(try simp only[vT]at h)
 ·have e:b0d r bad k=(List.replicate (min k 4) 0,r,true):=by
   rw[b0d,if_pos h,show(min (k:Int) 4).toNat=min k 4 by omega]
  refine zD (zr ?_)
  refine zb ?_
  refine vA ?_
  refine zq ?_
  refine za 0 (zJ (zn (zD (zr ?_))))
  refine zb ?_
  refine vO (O.minI rfl rfl rfl rfl) ?_
  refine AO.opB (O.makeSlice rfl rfl rfl (by assumption) (by assumption) (by omega) (by(unfold maxLen;omega)) (by rfl)) rfl rfl rfl ?_
  intro B1
  refine zc (zJ (zn (xj (xx ?_))))
  refine AQ.g ?_
  refine yi 0 4 ?_
  refine AQ.u ?_
  refine AQ.g ?_
  refine wm 4 ?_
  refine AQ.u ?_
  refine vz rfl rfl ⟨_,by repeat(first|exact List.Sublist.slnil|refine List.Sublist.cons_cons _ ?_),List.Perm.refl _⟩ (x0n e (b0u (by simp) (n0w _)))
 have e:b0d r bad k=(r.take k,r.drop k,bad):=by rw[b0d,if_neg (by omega)];simp
 refine y6 (zn (zD (zr ?_)))
 refine zb ?_
 refine vA ?_
 refine zq ?_
 refine zv ?_
 refine zb ?_
 refine zb ?_
 refine vO (O.sliceMax rfl rfl rfl rfl (by rfl) (by rfl) (by omega) (by rfl)) ?_
 refine zc (zJ (zn (zD (zr ?_))))
 refine zb ?_
 refine zb ?_
 refine vA ?_
 refine zq ?_
 refine zv ?_
 refine zb ?_
 refine vO (O.sliceFromB rfl rfl rfl (by rfl) (by omega)) ?_
 refine vA ?_
 refine zq ?_
 refine za 0 (zJ (zn (zD (zr ?_))))
 refine zb ?_
 refine zc (zJ (zn (xj ?_)))
 refine AQ.g ?_
 refine wm 4 ?_
 refine AQ.u ?_
 refine vz rfl rfl ⟨_,by repeat(first|exact List.Sublist.slnil|refine List.Sublist.cons_cons _ ?_),List.Perm.refl _⟩ (x0n e (b0u (by simp;omega) (by simp)))
theorem w0f {b:Nat}{p q:Int×List UInt8×Bool}(h:q=p):IsM (.val (.int .i64 q.1)) (prs b q.2.1 q.2.2) (.val (.int .i64 p.1)) [prs b p.2.1 p.2.2]:=by subst h;exact⟨rfl,rfl⟩
theorem m0G (b:Nat)(r:List UInt8)(bad:Bool)(n:Int)(hn:0≤n∧n≤15):
  Sp Tryz.prog 190 [ptr b,.val (.int .u8 n)] [prs b r bad] (IsM (.val (.int .i64 (g0n r bad n).1)) (prs b (g0n r bad n).2.1 (g0n r bad n).2.2)):=by
 have q1:=c0F r bad 1 (by omega)
 have q2:=c0F r bad 2 (by omega)
 have q1':=q1.2.2 (by omega)
 have q2':=q2.2.2 (by omega)
 have u1:=b0B (bt (b0d r bad 1).1 0)
 have u2:=b0B (bt (b0d r bad 2).1 0)
 have u3:=b0B (bt (b0d r bad 2).1 1)
 refine yX Tryz.func190 _ Tryz.ntmps190 (fun w0 R0=> ?_)
 refine zD (zr ?_)
 refine zc (zJ (zn (zD (zD (zr ?_)))))
 refine zb (zJ (zn (xo (zD (zr ?_)))))
 refine z8 ?_
 refine zc (zJ (zn ?_))
 refine yt (fun h=> ?_) (fun h=> ?_)<;>(try simp only[vT]at h)
 ·have e:g0n r bad n=(((bt (b0d r bad 1).1 0).toNat:Int)+13,(b0d r bad 1).2):=if_pos h
  refine zD (zr ?_)
  refine zb ?_
  refine xz 0 rfl rfl Tryz.func189 rfl rfl rfl rfl rfl rfl (k0a _ r bad _ (by omega)) ?_
  refine ye ?_
  refine vO (O.loadR rfl rfl (by exact b0l (k:=0) (by omega) rfl)) ?_
  refine xU ?_
  refine zB ?_
  refine zc (zJ (zn (xj ?_)))
  refine ww (xx ?_)
  refine vz rfl rfl ⟨_,by repeat(first|exact List.Sublist.slnil|refine List.Sublist.cons_cons _ ?_),List.Perm.refl _⟩ (w0f e)
 refine zD (zr ?_)
 refine z8 ?_
 refine zc (zJ (zn ?_))
 refine yt (fun h2=> ?_) (fun h2=> ?_)<;>(try simp only[vT]at h2)
 ·have e:g0n r bad n=(((bt (b0d r bad 2).1 0).toNat:Int)*256+((bt (b0d r bad 2).1 1).toNat:Int)+269,(b0d r bad 2).2):=by rw[g0n,if_neg h,if_pos h2]
  refine zD (zr ?_)
  refine zb ?_
  refine xz 0 rfl rfl Tryz.func189 rfl rfl rfl rfl rfl rfl (k0a _ r bad _ (by omega)) ?_
  refine zc (zJ (zn (zD ?_)))
  refine yA 12 ?_
  simp only[cT,cZ,cD,cO]
  refine zH ?_
  refine xr ?_
  refine vP (O.loadR rfl rfl (by exact b0l (k:=0) (by omega) rfl)) ?_
  refine wG ?_
  refine vP (O.shlK 8 256 rfl rfl rfl rfl (by rfl) (by exact e0J (by omega))) ?_
  refine zH ?_
  refine xr ?_
  refine vP (O.loadR rfl rfl (by exact b0l (k:=1) (by omega) rfl)) ?_
  refine wG ?_
  refine xm ?_
  refine xm ?_
  refine vB ?_
  refine vb ?_
  simp only[a0h,cN,cA,cP]
  refine zJ (zn (xj ?_))
  refine ww (xx ?_)
  refine vz rfl rfl ⟨_,by repeat(first|exact List.Sublist.slnil|refine List.Sublist.cons_cons _ ?_),List.Perm.refl _⟩ (w0f e)
 refine zD (zr ?_)
 refine z8 ?_
 refine zc (zJ (zn ?_))
 refine yt (fun h3=> ?_) (fun h3=> ?_)<;>(try simp only[vT]at h3)
 ·have e:g0n r bad n=(n,r,true):=by rw[g0n,if_neg h,if_neg h2,if_pos h3]
  refine zr ?_
  refine zb ?_
  refine vA ?_
  refine zq ?_
  refine za 0 (zJ (xE (zn (zD (zr ?_)))))
  refine zb ?_
  refine xU ?_
  refine zc (zJ (zn (xj ?_)))
  refine vz rfl rfl ⟨_,by repeat(first|exact List.Sublist.slnil|refine List.Sublist.cons_cons _ ?_),List.Perm.refl _⟩ (w0f e)
 have e:g0n r bad n=(n,r,bad):=by rw[g0n,if_neg h,if_neg h2,if_neg h3]
 refine y6 (xE (zn (zD (zr ?_))))
 refine zb ?_
 refine xU ?_
 refine zc (zJ (zn (xj ?_)))
 refine vz rfl rfl ⟨_,by repeat(first|exact List.Sublist.slnil|refine List.Sublist.cons_cons _ ?_),List.Perm.refl _⟩ (w0f e)
theorem j0Z {b:Nat}{r:List UInt8}{bad:Bool}{n:Int}{x r':List UInt8}{bad':Bool}(e:b0d r bad n=(x,r',bad'))(hn:0≤n∧n≤1000000):
  Sp Tryz.prog 189 [ptr b,.val (.int .i64 n)] [prs b r bad] (IsM (roB x) (prs b r' bad')):=by
 have:=k0a b r bad n hn
 rwa [e]at this
theorem h0o {b:Nat}{r:List UInt8}{bad:Bool}{n:Int}{v:Int}{r':List UInt8}{bad':Bool}(e:g0n r bad n=(v,r',bad'))(hn:0≤n∧n≤15):
  Sp Tryz.prog 190 [ptr b,.val (.int .u8 n)] [prs b r bad] (IsM (.val (.int .i64 v)) (prs b r' bad')):=by
 have:=m0G b r bad n hn
 rwa [e]at this
abbrev u0D (b x:List UInt8)(opts:List Opt)(r:List UInt8):Msg:=⟨((bt b 0).toNat:Int)/16%4,((bt b 1).toNat:Int),((bt b 2).toNat:Int)*256+((bt b 3).toNat:Int),x,opts,r.drop 1⟩
theorem p0u (b:List UInt8)(hb:b.length≤1000000):Sp Tryz.prog 173 [roB b] [] (Is (i0S (c0k b))):=by
 have u0:=b0B (bt b 0)
 have u1:=b0B (bt b 1)
 have u2:=b0B (bt b 2)
 have u3:=b0B (bt b 3)
 refine yX Tryz.func173 _ Tryz.ntmps173 (fun w0 R0=> ?_)
 refine zD (zr ?_)
 refine zd ?_
 intro B1
 refine zc (zJ (zn (zD (xo (zD (zr ?_))))))
 refine zb ?_
 refine zX ?_
 refine yZ ?_
 refine zc (zJ (zn ?_))
 refine yt (fun h=> ?_) (fun h=> ?_)<;>(try simp only[vT]at h)
 ·have e:c0k b=(Msg.none,8):=by rw[c0k,if_pos (by omega)]
  refine zD (zr ?_)
  refine zP ?_
  refine za 0 ?_
  refine zc (zJ (zn (xj ?_)))
  refine ww (xx ?_)
  refine wa yd zl (o0i e rfl)
 refine zD (zr ?_)
 refine zb ?_
 refine zX ?_
 refine zT ?_
 refine zc (zJ (zn ?_))
 refine yt (fun h2=> ?_) (fun h2=> ?_)<;>(try simp only[vT]at h2)
 ·have e:c0k b=(Msg.none,2):=by rw[c0k,if_neg (by omega),if_pos (by omega)]
  refine zD (zr ?_)
  refine zP ?_
  refine za 0 ?_
  refine zc (zJ (zn (xj ?_)))
  refine ww (xx ?_)
  refine wa yd zl (o0i e rfl)
 obtain⟨x,r0,bad0,e0⟩: ∃x r0 bad0,b0d (b.drop 4) false (((bt b 0).toNat:Int)%16)=(x,r0,bad0):=⟨_,_,_,rfl⟩
 obtain⟨hf0,hx⟩:=Fits.first e0
 have hl0:=c0F (b.drop 4) false (((bt b 0).toNat:Int)%16) (by omega)
 rw[e0]at hl0
 simp only[List.length_drop]at hl0
 refine y6 (xE (zn (zD ?_)))
 refine yA 22 ?_
 simp only[cT,cZ,cD,cO]
 refine zH ?_
 refine xr ?_
 refine vP (O.loadR rfl rfl (by exact b0l (k:=0) (by omega) rfl)) ?_
 refine vP (wC 4 16) ?_
 refine vP (O.and_ rfl rfl rfl (k0X 2 (by decide) (by decide) (m:=4) (by decide) (by omega))) ?_
 refine wG ?_
 refine zH ?_
 refine xr ?_
 refine vP (O.loadR rfl rfl (by exact b0l (k:=1) (by omega) rfl)) ?_
 refine wG ?_
 refine zH ?_
 refine xr ?_
 refine vP (O.loadR rfl rfl (by exact b0l (k:=2) (by omega) rfl)) ?_
 refine wG ?_
 refine vP (O.shlK 8 256 rfl rfl rfl rfl (by rfl) (by exact e0J (by omega))) ?_
 refine zH ?_
 refine xr ?_
 refine vP (O.loadR rfl rfl (by exact b0l (k:=3) (by omega) rfl)) ?_
 refine wG ?_
 refine vP (O.or_ rfl rfl rfl (o0L 8 (m:=256) (by decide) (by omega) (by omega))) ?_
 refine x0 ?_
 refine yS ?_
 refine vb ?_
 simp only[a0h,cN,cA,cP]
 rintro _ _ ⟨B2,rfl,rfl⟩
 simp only[cA,cN]
 refine za 0 (zJ (zn (zD (zr ?_))))
 refine zb ?_
 refine vO (O.sliceFromB (k:=4) rfl rfl rfl (by rfl) (by omega)) ?_
 refine zP ?_
 refine zd ?_
 intro B3
 refine za 0 (zJ (zn (zD (zr ?_))))
 refine zb ?_
 refine ye ?_
 refine vO (O.loadR rfl rfl (by exact b0l (k:=0) (by omega) rfl)) ?_
 refine vO (O.and_ rfl rfl rfl (k0X 4 (by decide) (by decide) (m:=16) (by decide) (by omega))) ?_
 refine xU ?_
 refine xz 0 rfl rfl Tryz.func189 rfl rfl rfl rfl rfl rfl (j0Z e0 (by omega)) ?_
 refine vO (xM rfl Tryz.func138 rfl rfl rfl (d0L _ (by omega))) ?_
 refine zq ?_
 refine za 1 (zJ (zn (zD (zr ?_))))
 refine zc (zJ (zn (zD (xo ?_))))
 refine AW.g ?_
 refine G.nilRow 96 2 ?_
 refine AW.u ?_
 refine zi [(0,_),(2,_),(4,_),(5,_)] (fun nn E H=> ∃(opts:List Opt) (last:Int) (r:List UInt8) (bad:Bool) (V:Value),(Fits b opts last r bad)∧(opts.length+r.length≤4096)∧(0≤last∧last≤65804*opts.length)∧(V.oneCell'=true)∧nn=r.length∧E= [(6,.val (.int .i64 last))]∧H= [.row V 96 2 opts.length (a0z opts),prs B3 r bad,.blk B2 29 6 [.val (.int .i64 (((bt b 0).toNat:Int)/16%4)),.val (.int .i64 ((bt b 1).toNat:Int)),.val (.int .i64 (((bt b 2).toNat:Int)*256+((bt b 3).toNat:Int))),roB x,.val V,.val (.slice none 0 0)],.blk B1 29 6 [.val (.int .i64 0),.val (.int .i64 0),.val (.int .i64 0),.val (.slice none 0 0),.val (.slice none 0 0),.val (.slice none 0 0)]]) _ (⟨[],0,r0,bad0,_,hf0,by simp;omega,by simp,rfl,rfl,rfl,rfl⟩) ?_
 rintro nn E H ⟨opts,last,r,bad,V,hf,hn,hl,hV,rfl,rfl,rfl⟩
 dsimp only[cA,cN]
 refine zD (zD (zr ?_))
 refine zq ?_
 refine zp ?_
 refine xu ?_
 refine zb ?_
 refine zN ?_
 refine yn 55 ?_
 refine yb 56 ?_
 refine yB 57 ?_
 refine zW ?_
 refine zb ?_
 refine zN ?_
 refine yn 61 ?_
 refine AO.opG rfl rfl rfl (fun hp=>ve 62 rfl (by exact hp) (O.idxR rfl rfl rfl ⟨(by omega),(by(simp only[cond_true,cond_false,Bool.not_eq_true',Bool.not_eq_false',Bool.and_eq_true,Bool.or_eq_true,Bool.or_eq_false_iff,Bool.and_eq_false_imp,cQ,decide_eq_false_iff_not,beq_iff_eq,bne_iff_ne,bne_eq_false_iff_eq,ne_eq]at hp;omega))⟩)) ?_
 refine AO.opG rfl rfl rfl (fun hp=>ve 63 rfl (by exact hp) (O.loadR rfl rfl (by exact b0l (k:=0) (by(simp only[cond_true,cond_false,Bool.not_eq_true',Bool.not_eq_false',Bool.and_eq_true,Bool.or_eq_true,Bool.or_eq_false_iff,Bool.and_eq_false_imp,cQ,decide_eq_false_iff_not,beq_iff_eq,bne_iff_ne,bne_eq_false_iff_eq,ne_eq]at hp;omega)) rfl))) ?_
 refine xW 64 ?_
 refine zW (zJ (zn ?_))
 refine yt (fun h3=> ?_) (fun h3=> ?_)<;>(try simp only[vT]at h3)
 ·obtain⟨⟨rfl,h4⟩,h5⟩:=h3
  obtain⟨h0,r9,rfl⟩: ∃h0 r9,r=h0::r9:=by
   cases r with
   |nil=>simp at h4
   |cons h0 r9=>exact⟨h0,r9,rfl⟩
  have u4:=b0B h0
  have ea:b0d (h0::r9) false 1=([h0],r9,false):=by rw[b0d,if_neg (by simp;omega)];rfl
  obtain⟨v1,r1,b1,e1⟩: ∃v1 r1 b1,g0n r9 false ((h0.toNat:Int)/16)=(v1,r1,b1):=⟨_,_,_,rfl⟩
  obtain⟨v2,r2,b2,e2⟩: ∃v2 r2 b2,g0n r1 b1 ((h0.toNat:Int)%16)=(v2,r2,b2):=⟨_,_,_,rfl⟩
  obtain⟨y,r3,b3,e3⟩: ∃y r3 b3,b0d r2 b2 v2=(y,r3,b3):=⟨_,_,_,rfl⟩
  have q1:=o0U r9 false (n:=(h0.toNat:Int)/16) (by omega)
  have q2:=o0U r1 b1 (n:=(h0.toNat:Int)%16) (by omega)
  rw[e1]at q1
  rw[e2]at q2
  simp only at q1 q2
  have q3:=c0F r2 b2 v2 (by omega)
  rw[e3]at q3
  simp only at q3
  simp only[cL]at hn
  have hf2:Fits b (opts++[⟨last+v1,y⟩]) (last+v1) r3 b3:=hf.step (by simp) (fun e=>h5 (by rw[e];rfl)) e1 e2 e3
  have hsc:a0z (opts++[⟨last+v1,y⟩])=a0z opts++[.val (.int .i64 (last+v1)),roB y]:=a0D _ _
  refine y6 (zn (xo (zD (zr ?_))))
  refine xz 1 rfl rfl Tryz.func189 rfl rfl rfl rfl rfl rfl (j0Z ea (by omega)) ?_
  refine vO (O.idxR rfl rfl rfl ⟨(by omega),(by(simp only[List.length_take,List.length_drop,cH,cL,cE,List.length_set,Nat.zero_add];omega))⟩) ?_
  refine vO (O.loadR rfl rfl (by rfl)) ?_
  refine zc (zJ (zn (zD (zr ?_))))
  refine zb ?_
  refine zb ?_
  refine vO (wC 4 16) ?_
  refine xz 1 rfl rfl Tryz.func190 rfl rfl rfl rfl rfl rfl (h0o e1 (by omega)) ?_
  refine zB ?_
  refine zc (zJ (zn (zD (zr ?_))))
  refine zb ?_
  refine vO (O.and_ rfl rfl rfl (k0X 4 (by decide) (by decide) (m:=16) (by decide) (by omega))) ?_
  refine xz 1 rfl rfl Tryz.func190 rfl rfl rfl rfl rfl rfl (h0o e2 (by omega)) ?_
  refine zc (zJ (zn ?_))
  refine vo [[(0,false),(1,false),(2,false),(3,false),(4,true),(5,false),(6,false),(7,false)],[(8,true)],[(9,false)],[(10,true)]] ?_
  refine AMS.go (by exact(by exact a0K 5 1 rfl rfl a0g)) ?_
  try dsimp only[List.eraseIdx]
  refine y1 ?_
  refine yu ?_
  refine yW ?_
  refine yW ?_
  refine xN _ (fun w0 R0=> ?_)
  refine xz 0 rfl rfl Tryz.func189 rfl rfl rfl rfl rfl rfl (j0Z e3 (by omega)) ?_
  refine AM.ok ?_
  dsimp only[a0q]
  refine vQ rfl (xM rfl Tryz.func138 rfl rfl rfl (d0L _ (by omega))) ?_
  refine xP ?_
  refine xk ?_
  refine vd ?_
  try dsimp only[cA,cN]
  refine AMS.go (by exact(a0s 1 rfl a0g)) ?_
  try dsimp only[List.eraseIdx]
  refine xN _ (fun w0 R0=> ?_)
  refine zy 0 ?_
  intro V4 hV4
  refine AM.ok ?_
  dsimp only[a0q]
  refine vd ?_
  try dsimp only[cA,cN]
  refine vL ?_
  try dsimp only[List.eraseIdx]
  refine y1 ?_
  refine vd ?_
  try dsimp only[cA,cN]
  refine AMS.go (by exact(a0s 2 rfl a0g)) ?_
  try dsimp only[List.eraseIdx]
  refine xN _ (fun w0 R0=> ?_)
  refine yF 0 (vI ?_)
  dsimp only[a0q]
  refine vd ?_
  try dsimp only[cA,cN]
  refine AMS.nil (xE ?_)
  refine xG _ _ _ (by simp;omega) (⟨opts++[⟨last+v1,y⟩],last+v1,r3,b3,_,hf2,by simp;omega,by simp;omega,‹_›,rfl,rfl,by rw[hsc,cH]⟩)
 have hend:bad=true∨r= []∨bt r 0=255:=by
  cases bad with
  |true=>exact .inl rfl
  |false=>
   cases r with
   |nil=>exact .inr (.inl rfl)
   |cons h0 r9=>exact .inr (.inr (u8_eq.1 (h3 ⟨rfl,by simp⟩)))
 have hall:=hf.all hx hend rfl rfl rfl rfl
 refine AW.g ?_
 refine G.freezeCell 0 1 4 rfl rfl rfl ?_
 refine AW.u ?_
 refine AW.g ?_
 refine G.coeCell 1 5 rfl rfl Coe.nil ?_
 refine AW.u ?_
 refine wj ?_
 refine x8 ?_
 refine wd ?_
 refine xD (zn (zD (zD (zr ?_))))
 refine zq ?_
 refine zv ?_
 refine zX ?_
 refine yZ (zJ (zn ?_))
 refine xR True [(0,_),(2,_),(4,_),(5,_)] [] [prs B3 r bad,.blk B2 29 6 [.val (.int .i64 (((bt b 0).toNat:Int)/16%4)),.val (.int .i64 ((bt b 1).toNat:Int)),.val (.int .i64 (((bt b 2).toNat:Int)*256+((bt b 3).toNat:Int))),roB x,roO opts,roB (r.drop 1)],.blk B1 29 6 [.val (.int .i64 0),.val (.int .i64 0),.val (.int .i64 0),.val (.slice none 0 0),.val (.slice none 0 0),.val (.slice none 0 0)]] (fun hb=> ?_) (fun hb=> ?_) (fun hj=> ?_)<;>try(try simp only[vT]at hb)
 ·have hb':=hb
  refine zr ?_
  refine zq ?_
  refine zv ?_
  refine vO (O.sliceFromB (k:=1) rfl rfl rfl (by rfl) (by omega)) ?_
  refine vO (xM rfl Tryz.func138 rfl rfl rfl (d0L _ (by(simp;omega)))) ?_
  refine zq ?_
  refine za 1 (zJ ?_)
  refine wU
 ·have hb':=hb
  obtain rfl:r= []:=List.eq_nil_of_length_eq_zero (by omega)
  refine y6 ?_
  refine wU
 dsimp only[cA,cN]
 refine zn (zD (zD (zr ?_)))
 refine zq ?_
 refine zv ?_
 refine zb ?_
 refine wx ?_
 refine AO.opG rfl rfl rfl (fun hp=>ve 100 rfl (by exact hp) (xM rfl Tryz.func162 rfl rfl rfl (l0i (u0D b x opts r)))) ?_
 refine xc 101 ?_
 refine zI ?_
 refine zb ?_
 refine wx ?_
 refine AO.opG rfl rfl rfl (fun hp=>ve 105 rfl (by exact hp) (O.call rfl Tryz.func163 rfl rfl rfl (j0y (u0D b x opts r) (by have:=hp;simp at this;exact this.2)))) ?_
 refine yC ?_
 refine AO.opG rfl rfl rfl (fun hp=>ve 106 rfl (by exact hp) (ve 107 rfl (by exact hp) (xM rfl Tryz.func172 rfl rfl rfl (r0s _ _)))) ?_
 refine xc 108 ?_
 refine zI (zJ (zn ?_))
 refine yt (fun h6=> ?_) (fun h6=> ?_)<;>(try simp only[vT]at h6)
 ·have e:c0k b=(Msg.none,4):=g0I (by omega) (by omega) fun m hm hr=>by
   obtain⟨g1,g2⟩:=hall m hm hr
   subst g2
   rcases h6 with(h6|h6)|h6
   ·rw[g1]at h6;cases h6
   ·exact h6 hm
   exact h6 hr
  refine zD (zr ?_)
  refine zP ?_
  refine za 2 ?_
  refine zc (zJ (zn (xj (xx ?_))))
  refine wa zm zl (o0i e rfl)
 have e:c0k b=(u0D b x opts r,0):=l0Y (by omega) (by omega) h6.1.2 h6.2 fun m hm hr=>(hall m hm hr).2
 refine y6 (zn (zD (zr ?_)))
 refine zA ?_
 refine za 2 ?_
 refine zc (zJ (zn (xj ?_)))
 refine wa zm yR (o0i e rfl)
def f0E (b:List UInt8)(n:Int)(i:Nat):Int×Nat:=
 if n<13 then(n,i)else if n=13∧i<b.length then(13+((bt b i).toNat:Int),i+1)
 else if n=14∧i+1<b.length then(269+((bt b i).toNat:Int)*256+((bt b (i+1)).toNat:Int),i+2)else(-1,i)
theorem k0R (b:List UInt8)(i j:Nat):bt (b.drop i) j=bt b (i+j):=by
 simp[bt,List.getD]
theorem l0J {b t:List UInt8}{x:Int}{i:Nat}(h:0≤x∧x≤65804)(hb:b.drop i=(ext x).2++t):f0E b (ext x).1 i=(x,i+(ext x).2.length)∧b.drop (i+(ext x).2.length)=t:=by
 refine⟨?_,by rw[←List.drop_drop,hb];simp⟩
 have hl:=congrArg List.length hb
 have h0:=congrArg (fun l=>bt l 0) hb
 have h1:=congrArg (fun l=>bt l 1) hb
 simp only[k0R,List.length_drop,cH]at hl h0 h1
 unfold ext at hl h0 h1⊢
 split at hl<;>rename_i g1
 ·unfold f0E;rw[if_pos g1,if_pos (by simp only;omega)];rfl
 rw[if_neg g1]at h0 h1⊢
 split at hl<;>rename_i g2
 ·rw[if_pos g2]at h0 h1⊢
  have:=a0I (x:=x-13) (by omega)
  simp only[cL,cE]at hl⊢
  unfold f0E
  rw[if_neg (by omega),if_pos ⟨rfl,by omega⟩]
  simp only[Nat.add_zero]at h0
  rw[h0]
  refine Prod.ext ?_ rfl
  show 13+((u8 (x-13)).toNat:Int)=x
  omega
 rw[if_neg g2]at h0 h1⊢
 have q1:=a0I (x:=(x-269)/256) (by omega)
 have q2:=c0r (x-269)
 simp only[cL,cE]at hl⊢
 unfold f0E
 rw[if_neg (by omega),if_neg (by omega),if_pos ⟨rfl,by omega⟩]
 simp only[Nat.add_zero]at h0
 rw[h0,h1]
 refine Prod.ext ?_ rfl
 show 269+((u8 ((x-269)/256)).toNat:Int)*256+((u8 (x-269)).toNat:Int)=x
 omega
theorem i0g (b:List UInt8){n:Int}(h:0≤n∧n≤15){i:Nat}(hi:i≤b.length): -1≤(f0E b n i).1∧(f0E b n i).1≤65804∧i≤(f0E b n i).2∧(f0E b n i).2≤b.length:=by
 have:=b0B (bt b i)
 have:=b0B (bt b (i+1))
 unfold f0E
 (repeat' split)<;>simp only<;>omega
theorem Fits.refstep {b:List UInt8}{opts:List Opt}{last:Int}{i:Nat}(h:Fits b opts last (b.drop i) false)(hat:i<b.length)(h2:((bt b i).toNat:Int)≠255){v1 v2:Int}{j k:Nat}
  (e1:f0E b (((bt b i).toNat:Int)/16) (i+1)=(v1,j)) (e2:f0E b (((bt b i).toNat:Int)%16) j=(v2,k)): ∀m,OkM m→raw m=b→
  0≤v1∧0≤v2∧k+v2≤b.length∧opts.length+1≤m.opts.length∧b.drop (k+v2.toNat)=c0U m (opts.length+1)∧opts++[⟨last+v1,(b.drop k).take v2.toNat⟩]=m.opts.take (opts.length+1):=fun m hm hr=>by
 have hd:=g0G hat
 have hr0:bt (b.drop i) 0=bt b i:=k0R b i 0
 obtain⟨o,d,n,h5,h6,h7,h8,h9,h10,h11,h12,h13⟩:=h.parts hm hr (by rw[hd];simp) (fun e=>h2 (by rw[←hr0,e];rfl))
 obtain⟨-, -, -,h16,h17⟩:=h m hm hr
 have q1:=c0v d h9
 have q2:=c0v n (by omega)
 rw[hr0]at h12
 rw[List.drop_drop]at h13
 obtain⟨g1,g2⟩:=l0J (by omega) h13
 rw[h12,show(16*(ext d).1+(ext n).1)/16=(ext d).1 by omega,g1]at e1
 simp only[Prod.mk.injEq]at e1
 obtain⟨e11,e12⟩:=e1
 rw[e12]at g2
 obtain⟨g3,g4⟩:=l0J (by omega) g2
 rw[h12,show(16*(ext d).1+(ext n).1)%16=(ext n).1 by omega,g3]at e2
 simp only[Prod.mk.injEq]at e2
 obtain⟨e21,e22⟩:=e2
 rw[e22]at g4
 have hl:=congrArg List.length g4
 simp only[List.length_drop,cH]at hl
 have hv:v2.toNat=o.val.length:=by omega
 have hol:last+v1=o.num:=by omega
 have hk:(k:Int)+v2≤b.length:=by
  rcases Nat.lt_or_ge b.length k with h|h
  ·exfalso
   have:=i0g b (n:=((bt b i).toNat:Int)%16) (by omega) (i:=j) (by have:=i0g b (n:=((bt b i).toNat:Int)/16) (by have:=b0B (bt b i);omega) (i:=i+1) (by omega);rw[h12,show(16*(ext d).1+(ext n).1)/16=(ext d).1 by omega,g1]at this;simp only at this;omega)
   rw[h12,show(16*(ext d).1+(ext n).1)%16=(ext n).1 by omega,g3]at this
   simp only at this
   omega
  omega
 refine⟨by omega,by omega,hk,h5,?_,?_⟩
 ·rw[←List.drop_drop,g4,hv];simp
 rw[a0i Opt.none h5,←h17,g4,hv,hol,List.take_left' rfl,h6]
theorem retN {q:AV}{r:Int×Nat}{v:Int}{i:Nat}(h:r=(v,i))(hq:q= .tup [.val (.int .i64 v),.val (.int .i64 (i:Int))]):Is (.tup [.val (.int .i64 r.1),.val (.int .i64 (r.2:Int))]) q []:=by subst h;exact⟨hq,rfl⟩
theorem q0z (b:List UInt8)(n:Int)(i:Nat)(hn:0≤n∧n≤15)(hb:b.length≤1000000)(hi:i≤b.length):
  Sp Tryz.prog 203 [roB b,.val (.int .i64 n),.val (.int .i64 (i:Int))] [] (Is (.tup [.val (.int .i64 (f0E b n i).1),.val (.int .i64 ((f0E b n i).2:Int))])):=by
 have u0:=b0B (bt b i)
 have u1:=b0B (bt b (i+1))
 refine yX Tryz.func203 _ Tryz.ntmps203 (fun w0 R0=> ?_)
 refine zD (zr ?_)
 refine zc ?_
 refine zc (zJ (zn (zD (xo (zD (zr ?_))))))
 refine zb ?_
 refine zT ?_
 refine zc (zJ (zn ?_))
 refine yt (fun h=> ?_) (fun h=> ?_)<;>(try simp only[vT]at h)
 ·have e:f0E b n i=(n,i):=by rw[f0E,if_pos h]
  refine zD (zr ?_)
  refine zb ?_
  refine zb ?_
  refine zc ?_
  refine zc (zJ (zn (xj ?_)))
  refine ww (xx ?_)
  refine AQ.ret2 rfl rfl rfl nS (retN e rfl)
 refine zD (zr ?_)
 refine zb ?_
 refine z8 ?_
 refine zb ?_
 refine yC ?_
 refine yC ?_
 refine yb 18 ?_
 refine AO.opG rfl rfl rfl (fun hp=>ve 17 rfl (by exact hp) (ve 19 rfl (by exact hp) yy)) ?_
 refine zW ?_
 refine zc (zJ (zn ?_))
 refine yt (fun h2=> ?_) (fun h2=> ?_)<;>(try simp only[vT]at h2)
 ·have e:f0E b n i=(13+((bt b i).toNat:Int),i+1):=by rw[f0E,if_neg (by omega),if_pos (by omega)]
  refine zD (zr ?_)
  refine zb ?_
  refine zb ?_
  refine ye ?_
  refine vO (O.loadR rfl rfl (by exact b0l (k:=i) (by omega) (by omega))) ?_
  refine xU ?_
  refine zB ?_
  refine zb ?_
  refine zB ?_
  refine zc ?_
  refine zc (zJ (zn (xj ?_)))
  refine ww (xx ?_)
  refine AQ.ret2 rfl rfl rfl nS (retN e rfl)
 refine zD (zr ?_)
 refine zb ?_
 refine z8 ?_
 refine zb ?_
 refine yC ?_
 refine AO.opG rfl rfl rfl (fun hp=>ve 34 rfl (by exact hp) zG) ?_
 refine yC ?_
 refine yb 36 ?_
 refine AO.opG rfl rfl rfl (fun hp=>ve 35 rfl (by exact hp) (ve 37 rfl (by exact hp) yy)) ?_
 refine zW ?_
 refine zc (zJ (zn ?_))
 refine yt (fun h3=> ?_) (fun h3=> ?_)<;>(try simp only[vT]at h3)
 ·have e:f0E b n i=(269+((bt b i).toNat:Int)*256+((bt b (i+1)).toNat:Int),i+2):=by rw[f0E,if_neg (by omega),if_neg (by omega),if_pos (by omega)]
  refine zD ?_
  refine yA 18 ?_
  simp only[cT,cZ,cD,cO]
  refine zH ?_
  refine zH ?_
  refine xr ?_
  refine vP (O.loadR rfl rfl (by exact b0l (k:=i) (by omega) (by omega))) ?_
  refine wG ?_
  refine vP (O.shlK 8 256 rfl rfl rfl rfl (by rfl) (by exact e0J (by omega))) ?_
  refine xm ?_
  refine zH ?_
  refine zH ?_
  refine xm ?_
  refine xr ?_
  refine vP (O.loadR rfl rfl (by exact b0l (k:=i+1) (by omega) (by omega))) ?_
  refine wG ?_
  refine xm ?_
  refine zH ?_
  refine xm ?_
  refine vB ?_
  refine vB ?_
  refine vb ?_
  simp only[a0h,cN,cA,cP]
  refine zJ (zn (xj ?_))
  refine ww (xx ?_)
  refine AQ.ret2 rfl rfl rfl nS (retN e rfl)
 have e:f0E b n i=(-1,i):=by rw[f0E,if_neg (by omega),if_neg (by omega),if_neg (by omega)]
 refine y6 (xE (zn (zD (zr ?_))))
 refine zb ?_
 refine zc ?_
 refine zc (zJ (zn (xj ?_)))
 refine AQ.ret2 rfl rfl rfl nS (retN e rfl)
theorem h0l {b:List UInt8}{n:Int}{i j:Nat}{v:Int}(e:f0E b n i=(v,j))(hn:0≤n∧n≤15)(hb:b.length≤1000000)(hi:i≤b.length):
  Sp Tryz.prog 203 [roB b,.val (.int .i64 n),.val (.int .i64 (i:Int))] [] (Is (.tup [.val (.int .i64 v),.val (.int .i64 (j:Int))])):=by
 have:=q0z b n i hn hb hi
 rwa [e]at this
theorem m0x (b:List UInt8)(hb:b.length≤1000000):Sp Tryz.prog 191 [roB b] [] (Is (i0S (c0k b))):=by
 have u0:=b0B (bt b 0)
 have u1:=b0B (bt b 1)
 have u2:=b0B (bt b 2)
 have u3:=b0B (bt b 3)
 refine yX Tryz.func191 _ Tryz.ntmps191 (fun w0 R0=> ?_)
 refine zD (zr ?_)
 refine zd ?_
 intro B1
 refine zc (zJ (zn (zD (xo (zD (zr ?_))))))
 refine zb ?_
 refine zX ?_
 refine yZ ?_
 refine zc (zJ (zn ?_))
 refine yt (fun h=> ?_) (fun h=> ?_)<;>(try simp only[vT]at h)
 ·have e:c0k b=(Msg.none,8):=by rw[c0k,if_pos (by omega)]
  refine zD (zr ?_)
  refine zP ?_
  refine za 0 ?_
  refine zc (zJ (zn (xj ?_)))
  refine ww (xx ?_)
  refine wa yd zl (o0i e rfl)
 refine zD (zr ?_)
 refine zb ?_
 refine zX ?_
 refine zT ?_
 refine zc (zJ (zn ?_))
 refine yt (fun h2=> ?_) (fun h2=> ?_)<;>(try simp only[vT]at h2)
 ·have e:c0k b=(Msg.none,2):=by rw[c0k,if_neg (by omega),if_pos (by omega)]
  refine zD (zr ?_)
  refine zP ?_
  refine za 0 ?_
  refine zc (zJ (zn (xj ?_)))
  refine ww (xx ?_)
  refine wa yd zl (o0i e rfl)
 refine y6 (xE (zn (zD (zr ?_))))
 refine zb ?_
 refine ye ?_
 refine vO (O.loadR rfl rfl (by exact b0l (k:=0) (by omega) rfl)) ?_
 refine vO (O.and_ rfl rfl rfl (k0X 4 (by decide) (by decide) (m:=16) (by decide) (by omega))) ?_
 refine xU ?_
 refine zc (zJ (zn (zD ?_)))
 refine yA 22 ?_
 simp only[cT,cZ,cD,cO]
 refine zH ?_
 refine xr ?_
 refine vP (O.loadR rfl rfl (by exact b0l (k:=0) (by omega) rfl)) ?_
 refine vP (wC 4 16) ?_
 refine vP (O.and_ rfl rfl rfl (k0X 2 (by decide) (by decide) (m:=4) (by decide) (by omega))) ?_
 refine wG ?_
 refine zH ?_
 refine xr ?_
 refine vP (O.loadR rfl rfl (by exact b0l (k:=1) (by omega) rfl)) ?_
 refine wG ?_
 refine zH ?_
 refine xr ?_
 refine vP (O.loadR rfl rfl (by exact b0l (k:=2) (by omega) rfl)) ?_
 refine wG ?_
 refine vP (O.shlK 8 256 rfl rfl rfl rfl (by rfl) (by exact e0J (by omega))) ?_
 refine zH ?_
 refine xr ?_
 refine vP (O.loadR rfl rfl (by exact b0l (k:=3) (by omega) rfl)) ?_
 refine wG ?_
 refine vP (O.or_ rfl rfl rfl (o0L 8 (m:=256) (by decide) (by omega) (by omega))) ?_
 refine x0 ?_
 refine yS ?_
 refine vb ?_
 simp only[a0h,cN,cA,cP]
 rintro _ _ ⟨B2,rfl,rfl⟩
 simp only[cA,cN]
 refine za 0 (zJ (zn (zD (zD (zr ?_)))))
 refine zb ?_
 refine yZ ?_
 refine zb ?_
 refine yC ?_
 refine yb 53 ?_
 refine yC ?_
 refine AO.opG rfl rfl rfl (fun hp=>ve 55 rfl (by exact hp) zG) ?_
 refine AO.opG rfl rfl rfl (fun hp=>ve 54 rfl (by exact hp) (ve 56 rfl (by exact hp) yy)) ?_
 refine zI (zJ (zn ?_))
 refine yt (fun h3=> ?_) (fun h3=> ?_)<;>(try simp only[vT]at h3)
 ·have e:c0k b=(Msg.none,4):=g0I (by omega) (by omega) fun m hm hr=>by
   obtain⟨g1, -, -, -,g5⟩:=Fits.start m hm hr
   have q1:=hm.1
   have q2:=hm.2.1
   have g6:=congrArg List.length g5
   simp only[List.length_drop,cH]at g6
   omega
  refine zD (zr ?_)
  refine zP ?_
  refine za 1 ?_
  refine zc (zJ (zn (xj (xx ?_))))
  refine wa zm zl (o0i e rfl)
 obtain⟨c,hc⟩: ∃c:Nat,(c:Int)=((bt b 0).toNat:Int)%16:=⟨(bt b 0).toNat%16,by omega⟩
 have e0:b0d (b.drop 4) false (((bt b 0).toNat:Int)%16)=((b.drop 4).take (4+c-4),b.drop (4+c),false):=by
  rw[b0d,if_neg (by rw[List.length_drop];omega),←hc];simp
 obtain⟨hf0,hx⟩:=Fits.first e0
 refine y6 (zn (zD (zr ?_)))
 refine zb ?_
 refine zb ?_
 refine zB ?_
 refine vO (O.sliceLHB rfl rfl rfl rfl (lo:=4) (hi:=4+c) (by rfl) (by omega) (by omega) (by omega)) ?_
 refine y4 ?_
 intro V3 hV3
 refine AO.g ?_
 refine yQ 0 [64] ?_
 refine AO.u ?_
 dsimp only[List.map,List.eraseIdx,cA,cN]
 refine zq ?_
 refine za 0 (zJ (zn (zD (zr ?_))))
 refine zb ?_
 refine zB ?_
 refine zc ?_
 refine zc (zJ (zn (zD (zr ?_))))
 refine zc (zJ (zn (zD (xo ?_))))
 refine AW.g ?_
 refine G.nilRow 96 2 ?_
 refine AW.u ?_
 refine zi [(0,_),(2,_),(5,_)] (fun nn E H=> ∃(i:Nat) (opts:List Opt) (last:Int) (V:Value),(Fits b opts last (b.drop i) false)∧(i≤b.length)∧(opts.length≤i)∧(0≤last∧last≤65804*opts.length)∧(V.oneCell'=true)∧nn=b.length-i∧E= [(6,.val (.int .i64 (i:Int))),(7,.val (.int .i64 last)),(8,.val V)]∧H= [.row V 96 2 opts.length (a0z opts),.blk B2 29 6 [.val (.int .i64 (((bt b 0).toNat:Int)/16%4)),.val (.int .i64 ((bt b 1).toNat:Int)),.val (.int .i64 (((bt b 2).toNat:Int)*256+((bt b 3).toNat:Int))),roB ((b.drop 4).take (4+c-4)),.val (.slice none 0 0),.val (.slice none 0 0)],.blk B1 29 6 [.val (.int .i64 0),.val (.int .i64 0),.val (.int .i64 0),.val (.slice none 0 0),.val (.slice none 0 0),.val (.slice none 0 0)]]) _ (⟨4+c,[],0,_,hf0,by omega,by simp,by simp,rfl,rfl,by rw[show((4+c:Nat):Int)=4+((bt b 0).toNat:Int)%16 by omega],rfl⟩) ?_
 rintro nn E H ⟨i,opts,last,V,hf,hi,hn,hl,hV,rfl,rfl,rfl⟩
 dsimp only[cA,cN]
 refine zD (zD (zr ?_))
 refine zb ?_
 refine zb ?_
 refine zX ?_
 refine zT ?_
 refine zb ?_
 refine yC ?_
 refine yC ?_
 refine AO.opG rfl rfl rfl (fun hp=>ve 73 rfl (by exact hp) (ve 74 rfl (by exact hp) (O.idxR rfl rfl rfl ⟨(by omega),(by(simp only[cond_true,cond_false,Bool.not_eq_true',Bool.not_eq_false',Bool.and_eq_true,Bool.or_eq_true,Bool.or_eq_false_iff,Bool.and_eq_false_imp,cQ,decide_eq_false_iff_not,beq_iff_eq,bne_iff_ne,bne_eq_false_iff_eq,ne_eq]at hp;omega))⟩))) ?_
 refine AO.opG rfl rfl rfl (fun hp=>ve 75 rfl (by exact hp) (O.loadR rfl rfl (by exact b0l (k:=i) (by(simp only[cond_true,cond_false,Bool.not_eq_true',Bool.not_eq_false',Bool.and_eq_true,Bool.or_eq_true,Bool.or_eq_false_iff,Bool.and_eq_false_imp,cQ,decide_eq_false_iff_not,beq_iff_eq,bne_iff_ne,bne_eq_false_iff_eq,ne_eq]at hp;omega)) (by omega)))) ?_
 refine xW 76 ?_
 refine zW (zJ (zn ?_))
 refine yt (fun h4=> ?_) (fun h4=> ?_)<;>(try simp only[vT]at h4)
 ·have u4:=b0B (bt b i)
  obtain⟨v1,j,e1⟩: ∃v1 j,f0E b (((bt b i).toNat:Int)/16) (i+1)=(v1,j):=⟨_,_,rfl⟩
  obtain⟨v2,k,e2⟩: ∃v2 k,f0E b (((bt b i).toNat:Int)%16) j=(v2,k):=⟨_,_,rfl⟩
  have q1:=i0g b (n:=((bt b i).toNat:Int)/16) (by omega) (i:=i+1) (by omega)
  rw[e1]at q1
  simp only at q1
  have q2:=i0g b (n:=((bt b i).toNat:Int)%16) (by omega) (i:=j) (by omega)
  rw[e2]at q2
  simp only at q2
  have hst:=hf.refstep (by omega) h4.2 e1 e2
  refine y6 (zn (xo (zD (zr ?_))))
  refine zb ?_
  refine zb ?_
  refine ye ?_
  refine vO (O.loadR rfl rfl (by exact b0l (k:=i) (by omega) (by omega))) ?_
  refine zc (zJ (zn (zD (zr ?_))))
  refine zb ?_
  refine zb ?_
  refine vO (wC 4 16) ?_
  refine xU ?_
  refine zb ?_
  refine zB ?_
  refine vO (O.callC rfl Tryz.func203 rfl rfl rfl (h0l e1 (by omega) (by omega) (by omega)) (by(repeat(first|exact CoeL.nil|refine CoeL.cons Coe.rfl ?_));done)) ?_
  refine zb ?_
  refine zK ?_
  refine zK ?_
  refine zc ?_
  refine zc (zJ (zn (zD (zD (zr ?_)))))
  refine zb ?_
  refine zT (zJ (zn ?_))
  refine yt (fun h5=> ?_) (fun h5=> ?_)<;>(try simp only[vT]at h5)
  ·have e:c0k b=(Msg.none,4):=g0I (by omega) (by omega) fun m hm hr=>by
    have:=(hst m hm hr).1
    omega
   refine zD (zr ?_)
   refine zP ?_
   refine za 2 ?_
   refine zc (zJ (zn (xj (xx ?_))))
   refine ww ?_
   refine AQ.loopR ?_
   refine ww (xx ?_)
   refine wa zm zl (o0i e rfl)
  refine y6 (zn (zD (zr ?_)))
  refine zb ?_
  refine zb ?_
  refine vO (O.and_ rfl rfl rfl (k0X 4 (by decide) (by decide) (m:=16) (by decide) (by omega))) ?_
  refine xU ?_
  refine zb ?_
  refine vO (xM rfl Tryz.func203 rfl rfl rfl (h0l e2 (by omega) (by omega) (by omega))) ?_
  refine zb ?_
  refine zK ?_
  refine zK ?_
  refine zc ?_
  refine zc (zJ (zn (zD (zD (zr ?_)))))
  refine zb ?_
  refine zT ?_
  refine zb ?_
  refine yC ?_
  refine yC ?_
  refine yb 109 ?_
  refine yC ?_
  refine AO.opG rfl rfl rfl (fun hp=>ve 110 rfl (by exact hp) (vH 111 rfl (by exact hp))) ?_
  refine AO.opG rfl rfl rfl (fun hp=>ve 108 rfl (by exact hp) (ve 112 rfl (by exact hp) yT)) ?_
  refine zI (zJ (zn ?_))
  refine yt (fun h6=> ?_) (fun h6=> ?_)<;>(try simp only[vT]at h6)
  ·have e:c0k b=(Msg.none,4):=g0I (by omega) (by omega) fun m hm hr=>by
    have:=hst m hm hr
    omega
   refine zD (zr ?_)
   refine zP ?_
   refine za 2 ?_
   refine zc (zJ (zn (xj (xx ?_))))
   refine ww ?_
   refine AQ.loopR ?_
   refine ww (xx ?_)
   refine wa zm zl (o0i e rfl)
  obtain⟨z,rfl⟩: ∃z:Nat,v2=(z:Int):=⟨v2.toNat,by omega⟩
  have hf2:Fits b (opts++[⟨last+v1,(b.drop k).take (k+z-k)⟩]) (last+v1) (b.drop (k+z)) false:=fun m hm hr=>by
   obtain⟨-, -,g3,g4,g5,g6⟩:=hst m hm hr
   refine⟨rfl,by simpa using g4,by simpa using g5,by rw[b0r],by simpa using g6⟩
  have hsc:a0z (opts++[⟨last+v1,(b.drop k).take (k+z-k)⟩])=a0z opts++[.val (.int .i64 (last+v1)),roB ((b.drop k).take (k+z-k))]:=a0D _ _
  refine y6 (zn (zD (zr ?_)))
  refine zb ?_
  refine zb ?_
  refine zB ?_
  refine zc (zJ (zn (zD (zr ?_))))
  refine zb ?_
  refine zb ?_
  refine zb ?_
  refine zb ?_
  refine zb ?_
  refine zb ?_
  refine zB ?_
  refine vO (O.sliceLHB rfl rfl rfl rfl (lo:=k) (hi:=k+z) (by rfl) (by rfl) (by omega) (by omega)) ?_
  refine y4 ?_
  intro V4 hV4
  refine AO.g ?_
  refine yQ 0 [127] ?_
  refine AO.u ?_
  dsimp only[List.map,List.eraseIdx,cA,cN]
  refine zP ?_
  refine zR ?_
  intro B5
  refine AO.g ?_
  refine yi 0 129 ?_
  refine wm 129 ?_
  refine AO.u ?_
  dsimp only[List.eraseIdx]
  refine zy 0 ?_
  intro V6 hV6
  refine zc (zJ (zn (zr ?_)))
  refine zb ?_
  refine zb ?_
  refine zB ?_
  refine zc (zJ (xE ?_))
  refine zu _ _ _ (by omega) (⟨k+z,opts++[⟨last+v1,(b.drop k).take (k+z-k)⟩],last+v1,_,hf2,by omega,by simp;omega,by simp;omega,‹_›,rfl,rfl,by rw[hsc,cH]⟩)
 have hend:false=true∨b.drop i= []∨bt (b.drop i) 0=255:=by
  rcases Nat.lt_or_ge i b.length with h9|h9
  ·refine .inr (.inr ?_)
   rw[k0R]
   exact u8_eq.1 (h4 (by omega))
  exact .inr (.inl (List.drop_eq_nil_of_le h9))
 have hall:=hf.all hx hend rfl rfl rfl rfl
 refine AW.g ?_
 refine yf 0 [8] ?_
 refine AW.u ?_
 try dsimp only[List.map,List.eraseIdx,cA,cN]
 refine AW.g ?_
 refine G.coeCell 0 5 rfl rfl Coe.nil ?_
 refine AW.u ?_
 refine wj ?_
 refine x8 ?_
 refine wd ?_
 refine xD (zn (zD (zr ?_)))
 refine zb ?_
 refine zq ?_
 refine za 0 (zJ (zn (zD (zD (zr ?_)))))
 refine zb ?_
 refine zb ?_
 refine zX ?_
 refine zT (zJ (zn ?_))
 refine xR True [(0,_),(2,_),(5,_)] [] [.blk B2 29 6 [.val (.int .i64 (((bt b 0).toNat:Int)/16%4)),.val (.int .i64 ((bt b 1).toNat:Int)),.val (.int .i64 (((bt b 2).toNat:Int)*256+((bt b 3).toNat:Int))),roB ((b.drop 4).take (4+c-4)),roO opts,roB ((b.drop i).drop 1)],.blk B1 29 6 [.val (.int .i64 0),.val (.int .i64 0),.val (.int .i64 0),.val (.slice none 0 0),.val (.slice none 0 0),.val (.slice none 0 0)]] (fun hb=> ?_) (fun hb=> ?_) (fun hj=> ?_)<;>try(try simp only[vT]at hb)
 ·rw[show(b.drop i).drop 1=b.drop (i+1) by simp]
  refine zr ?_
  refine zb ?_
  refine zb ?_
  refine zB ?_
  refine vO (O.sliceFromB (k:=i+1) rfl rfl rfl (by rfl) (by omega)) ?_
  refine y4 ?_
  intro V7 hV7
  refine AO.g ?_
  refine yQ 0 [144] ?_
  refine AO.u ?_
  dsimp only[List.map,List.eraseIdx,cA,cN]
  refine zq ?_
  refine za 0 (zJ ?_)
  refine vc
 ·rw[show(b.drop i).drop 1= [] by simp;omega]
  refine y6 ?_
  refine wU
 dsimp only[cA,cN]
 refine zn (zD (zD ?_))
 refine yA 11 ?_
 simp only[cT,cZ,cD,cO]
 refine vq ?_
 refine vP (xM rfl Tryz.func164 rfl rfl rfl (rvalid_fn (u0D b ((b.drop 4).take (4+c-4)) opts (b.drop i)))) ?_
 refine vP xA ?_
 refine zH ?_
 refine FA.opG rfl rfl rfl rfl (fun hp=>zt) ?_
 refine FA.opG rfl rfl rfl rfl (fun hp=>ve 150 rfl (by exact hp) (O.call rfl Tryz.func165 rfl rfl rfl (o0v (u0D b ((b.drop 4).take (4+c-4)) opts (b.drop i)) (by have:=hp;simp only[cond_false,Bool.not_not,cQ]at this;exact this.1)))) ?_
 refine FA.opG rfl rfl rfl rfl (fun hp=>ve 151 rfl (by exact hp) (O.convS rfl rfl (by rfl))) ?_
 refine FA.opG rfl rfl rfl rfl (fun hp=>zg) ?_
 refine FA.opG rfl rfl rfl rfl (fun hp=>ve 153 rfl (by exact hp) (O.convS rfl rfl (by rfl))) ?_
 refine FA.opG rfl rfl rfl rfl (fun hp=>ve 152 rfl (by exact hp) (ve 154 rfl (by exact hp) (O.neqS rfl rfl rfl (by rfl)))) ?_
 refine vP zO ?_
 refine vb ?_
 simp only[a0h,cN,cA,cP]
 refine zJ (zn ?_)
 refine yt (fun h6=> ?_) (fun h6=> ?_)<;>(try simp only[vT]at h6)
 ·have e:c0k b=(Msg.none,4):=g0I (by omega) (by omega) fun m hm hr=>by
   obtain⟨g1,g2⟩:=hall m hm hr
   subst g2
   rcases h6 with h6|h6
   ·exact h6 ⟨hm,by rw[hr];omega⟩
   exact h6 hr
  refine zD (zr ?_)
  refine zP ?_
  refine za 1 ?_
  refine zc (zJ (zn (xj (xx ?_))))
  refine wa zm zl (o0i e rfl)
 have e:c0k b=(u0D b ((b.drop 4).take (4+c-4)) opts (b.drop i),0):=l0Y (by omega) (by omega) h6.1.1 h6.2 fun m hm hr=>(hall m hm hr).2
 refine y6 (zn (zD (zr ?_)))
 refine zC ?_
 refine za 1 ?_
 refine zc (zJ (zn (xj ?_)))
 refine wa zm yR (o0i e rfl)
end Go.Proofs.YtojomcdjcpmnkaaGreat.By
namespace Go.Proofs.YtojomcdjcpmnkaaGreat.By
open Go.RowKit L A
attribute [local irreducible] AW AQ AO
def pkM (m:Msg):Msg:=⟨0,m.code,0,[],m.opts,m.pay⟩
def b0w (m:Msg):List UInt8×Int:=
 if rq m.code=true∨rs m.code=true then(if(e0A (pkM m)).2=0 then(u8 m.code::(e0A (pkM m)).1.drop 4,0)else([],(e0A (pkM m)).2))else([],1)
abbrev w0y (r:List UInt8×Int):AV:= .tup [roB r.1,.val (.int .i64 r.2)]
theorem u0w {r:List UInt8×Int}{a:List UInt8}{e:Int}(h:r=(a,e)):Is (w0y r) (.tup [roB a,.val (.int .i64 e)]) []:=by rw[h];exact⟨rfl,rfl⟩
def unB (b:List UInt8):List UInt8:=64::bt b 0::0::0::b.drop 1
noncomputable def a0G (b:List UInt8):Msg×Int:=
 if b= []then(Msg.none,2)else if rq ((bt b 0).toNat:Int)=true∨rs ((bt b 0).toNat:Int)=true then c0k (unB b)else(Msg.none,4)
theorem g0e {r:Msg×Int}{a:Msg}{e:Int}(h:r=(a,e)):Is (i0S r) (.tup [b0c a,.val (.int .i64 e)]) []:=by rw[h];exact⟨rfl,rfl⟩
theorem q0H (m:Msg):4≤(raw m).length:=by simp only[raw,g0t,cH,cL,cE];omega
theorem g0E {m:Msg}(h:(e0A m).2=0):4≤(e0A m).1.length∧(e0A m).1.length≤4096:=by
 by_cases hv:ValM m
 ·rw[h0x hv];exact⟨q0H m,by have:=hv.2;simp only;omega⟩
 rw[h0y hv]at h;cases h
theorem t0t (m:Msg):Sp Tryz.prog 115 [b0c m] [] (Is (w0y (b0w m))):=by
 refine yX Tryz.func115 _ Tryz.ntmps115 (fun w0 R0=> ?_)
 refine zD (zr ?_)
 refine yo ?_
 intro B1
 refine zc ?_
 refine zc (zJ (zn (zD (zD (zr ?_)))))
 refine zq ?_
 refine zv ?_
 refine vO (xM rfl Tryz.func152 rfl rfl rfl (d0n m.code)) ?_
 refine xu ?_
 refine zb ?_
 refine zN ?_
 refine zw 11 ?_
 refine AO.opG rfl rfl rfl (fun hp=>ve 12 rfl (by exact hp) (xM rfl Tryz.func153 rfl rfl rfl (c0R m.code))) ?_
 refine xc 13 ?_
 refine zW (zJ (zn ?_))
 refine yt (fun h=> ?_) (fun h=> ?_)<;>(try simp only[vT]at h)
 ·have e:b0w m=([],1):=if_neg (by rw[h.1,h.2];simp)
  refine zD (zr ?_)
  refine zc ?_
  refine zc (zJ (zn (xj (xx ?_))))
  refine wa yV yv (u0w e)
 have hc:rq m.code=true∨rs m.code=true:=by cases hq:rq m.code<;>simp_all
 refine y6 (zn (zD (zr ?_)))
 refine zq ?_
 refine zv ?_
 refine zq ?_
 refine zv ?_
 refine zq ?_
 refine zv ?_
 refine zP ?_
 refine vO (vv rfl Tryz.func119 rfl rfl rfl (p0r (pkM m))) ?_
 refine zb ?_
 refine zK ?_
 refine zK ?_
 refine zc ?_
 refine zc (zJ (zn (zD (zD (zr ?_)))))
 refine zb ?_
 refine y2 (zJ (zn ?_))
 refine yt (fun h2=> ?_) (fun h2=> ?_)<;>(try simp only[vT]at h2)
 ·have e:b0w m=([],(e0A (pkM m)).2):=by rw[b0w,if_pos hc,if_neg h2]
  refine zD (zr ?_)
  refine zb ?_
  refine zc ?_
  refine zc (zJ (zn (xj (xx ?_))))
  refine wa yV yv (u0w e)
 have hl:=g0E h2
 have e:b0w m=(u8 m.code::(e0A (pkM m)).1.drop 4,0):=by rw[b0w,if_pos hc,if_pos h2]
 refine y6 (zn (zD ?_))
 refine yA 6 ?_
 simp only[cT,cZ,cD,cO]
 refine yw ?_
 refine yU ?_
 refine vP (O.conv rfl rfl d0m) ?_
 refine FA.opN zV rfl rfl rfl rfl ?_
 refine zH ?_
 refine vP (O.sliceFromB (k:=4) rfl rfl rfl (by rfl) (by omega)) ?_
 refine vb ?_
 simp only[a0h,cN,cA,cP]
 rintro _ _ ⟨B2,rfl,rfl⟩
 simp only[cA,cN]
 refine AO.g ?_
 refine G.closeRow (n:=1) (cap:=1) 0 rfl rfl rfl (Nat.le_refl _) (by(unfold maxLen;omega)) ?_
 refine AO.u ?_
 dsimp only[List.set]
 refine xC 0 ?_
 intro V3 hV3
 refine zc ?_
 refine zc (zJ (zn (xj ?_)))
 refine AQ.g ?_
 refine yf 0 [2] ?_
 refine AQ.u ?_
 try dsimp only[List.map,List.eraseIdx,cA,cN]
 refine AQ.g ?_
 refine G.re 2 (roB (u8 m.code::(e0A (pkM m)).1.drop 4)) (congrArg some (b0u (by rw[cL];omega) rfl)) ?_
 refine AQ.u ?_
 refine wa yV yR (u0w e)
theorem q0w (m:Msg):Sp Tryz.prog 127 [b0c m] [] (Is (w0y (b0w m))):=by
 refine yX Tryz.func127 _ Tryz.ntmps127 (fun w0 R0=> ?_)
 refine zD (zr ?_)
 refine yo ?_
 intro B1
 refine zc ?_
 refine zc (zJ (zn (zD (zD (zr ?_)))))
 refine zq ?_
 refine zv ?_
 refine vO (xM rfl Tryz.func63 rfl rfl rfl (b0N m.code)) ?_
 refine xu ?_
 refine zb ?_
 refine zN ?_
 refine zw 11 ?_
 refine AO.opG rfl rfl rfl (fun hp=>ve 12 rfl (by exact hp) (xM rfl Tryz.func83 rfl rfl rfl (c0e m.code))) ?_
 refine xc 13 ?_
 refine zW (zJ (zn ?_))
 refine yt (fun h=> ?_) (fun h=> ?_)<;>(try simp only[vT]at h)
 ·have e:b0w m=([],1):=if_neg (by rw[h.1,h.2];simp)
  refine zD (zr ?_)
  refine zc ?_
  refine zc (zJ (zn (xj (xx ?_))))
  refine wa yV yv (u0w e)
 have hc:rq m.code=true∨rs m.code=true:=by cases hq:rq m.code<;>simp_all
 refine y6 (zn (zD (zr ?_)))
 refine zq ?_
 refine zv ?_
 refine zq ?_
 refine zv ?_
 refine zq ?_
 refine zv ?_
 refine zP ?_
 refine vO (vv rfl Tryz.func120 rfl rfl rfl (k0m (pkM m))) ?_
 refine zb ?_
 refine zK ?_
 refine zK ?_
 refine zc ?_
 refine zc (zJ (zn (zD (zD (zr ?_)))))
 refine zb ?_
 refine y2 (zJ (zn ?_))
 refine yt (fun h2=> ?_) (fun h2=> ?_)<;>(try simp only[vT]at h2)
 ·have e:b0w m=([],(e0A (pkM m)).2):=by rw[b0w,if_pos hc,if_neg h2]
  refine zD (zr ?_)
  refine zb ?_
  refine zc ?_
  refine zc (zJ (zn (xj (xx ?_))))
  refine wa yV yv (u0w e)
 have hl:=g0E h2
 have e:b0w m=(u8 m.code::(e0A (pkM m)).1.drop 4,0):=by rw[b0w,if_pos hc,if_pos h2]
 refine y6 (zn (zD ?_))
 refine yA 6 ?_
 simp only[cT,cZ,cD,cO]
 refine yw ?_
 refine yU ?_
 refine vP (O.conv rfl rfl d0m) ?_
 refine FA.opN zV rfl rfl rfl rfl ?_
 refine zH ?_
 refine vP (O.sliceFromB (k:=4) rfl rfl rfl (by rfl) (by omega)) ?_
 refine vb ?_
 simp only[a0h,cN,cA,cP]
 rintro _ _ ⟨B2,rfl,rfl⟩
 simp only[cA,cN]
 refine AO.g ?_
 refine G.closeRow (n:=1) (cap:=1) 0 rfl rfl rfl (Nat.le_refl _) (by(unfold maxLen;omega)) ?_
 refine AO.u ?_
 dsimp only[List.set]
 refine xC 0 ?_
 intro V3 hV3
 refine zc ?_
 refine zc (zJ (zn (xj ?_)))
 refine AQ.g ?_
 refine yf 0 [2] ?_
 refine AQ.u ?_
 try dsimp only[List.map,List.eraseIdx,cA,cN]
 refine AQ.g ?_
 refine G.re 2 (roB (u8 m.code::(e0A (pkM m)).1.drop 4)) (congrArg some (b0u (by rw[cL];omega) rfl)) ?_
 refine AQ.u ?_
 refine wa yV yR (u0w e)
theorem p0t {n:Nat}{xs:List AV}{l:List UInt8}(h1:n=l.length)(h2:xs=a0a l)(hl:l.length≤1000000):Sp Tryz.prog 173 [.ro false n xs] [] (Is (i0S (c0k l))):=by
 subst h1;subst h2;exact p0u l hl
theorem m0w {n:Nat}{xs:List AV}{l:List UInt8}(h1:n=l.length)(h2:xs=a0a l)(hl:l.length≤1000000):Sp Tryz.prog 191 [.ro false n xs] [] (Is (i0S (c0k l))):=by
 subst h1;subst h2;exact m0x l hl
theorem i0I {b:List UInt8}(h:0<b.length):a0a (unB b)= [.val (.int .u8 64),.val (.int .u8 ((bt b 0).toNat:Int)),.val (.int .u8 0),.val (.int .u8 0)]++a0a (b.drop 1):=rfl
theorem h0J {b:List UInt8}(h:0<b.length):(unB b).length=b.length+3:=by unfold unB;simp;omega
theorem q0I {m:Msg}{b:List UInt8}(hm:OkM m)(h:raw m=unB b):m.ty=0∧m.id=0∧m.tok= []:=by
 obtain⟨⟨a1,a2, -⟩,⟨a3,a4,a5, -⟩, -⟩:=hm
 have h0:=congrArg (fun l=>bt l 0) h
 have h2:=congrArg (fun l=>bt l 2) h
 have h3:=congrArg (fun l=>bt l 3) h
 have e0:bt (raw m) 0=u8 (64+16*m.ty+m.tok.length):=rfl
 have e2:bt (raw m) 2=u8 (m.id/256):=rfl
 have e3:bt (raw m) 3=u8 m.id:=rfl
 have f0:bt (unB b) 0=64:=rfl
 have f2:bt (unB b) 2=0:=rfl
 have f3:bt (unB b) 3=0:=rfl
 simp only[e0,e2,e3,f0,f2,f3]at h0 h2 h3
 have g0:=a0I (x:=64+16*m.ty+m.tok.length) (by omega)
 have g2:=a0I (x:=m.id/256) (by omega)
 have g3:=c0r m.id
 rw[h0]at g0
 rw[h2]at g2
 rw[h3]at g3
 have k0:((64:UInt8).toNat:Int)=64:=rfl
 have k2:((0:UInt8).toNat:Int)=0:=rfl
 rw[k0]at g0
 rw[k2]at g2 g3
 exact⟨by omega,by omega,List.eq_nil_of_length_eq_zero (by omega)⟩
theorem r0y (b:List UInt8)(h:(c0k (unB b)).2=0):(c0k (unB b)).1.ty=0∧(c0k (unB b)).1.id=0∧(c0k (unB b)).1.tok= []:=by
 have:=p0v h
 exact q0I this.1.1 this.2
theorem p0w (b:List UInt8)(h:(c0k b).2≠0):(c0k b).1=Msg.none:=by
 unfold c0k at h⊢
 (repeat' split)<;>first|rfl|skip
 all_goals simp_all
theorem n0H (b:List UInt8)(hb:b.length≤900000):Sp Tryz.prog 140 [roB b] [] (Is (i0S (a0G b))):=by
 refine yX Tryz.func140 _ Tryz.ntmps140 (fun w0 R0=> ?_)
 refine zD (zr ?_)
 refine zd ?_
 intro B1
 refine zc (zJ (zn (zD (zD (zr ?_)))))
 refine zb ?_
 refine zX ?_
 refine z8 (zJ (zn ?_))
 refine yt (fun h=> ?_) (fun h=> ?_)<;>(try simp only[vT]at h)
 ·have e:a0G b=(Msg.none,2):=if_pos (List.eq_nil_of_length_eq_zero (by omega))
  refine zD (zr ?_)
  refine zP ?_
  refine za 0 ?_
  refine zc (zJ (zn (xj (xx ?_))))
  refine wa yd zl (g0e e)
 have hb0:0<b.length:=by omega
 have hbn:b≠ []:=fun e=>by rw[e]at hb0;cases hb0
 have hub:=b0B (bt b 0)
 refine y6 (zn (zD (zD (zr ?_))))
 refine zb ?_
 refine ye ?_
 refine vO (O.loadR rfl rfl (by exact b0l (k:=0) hb0 rfl)) ?_
 refine xU ?_
 refine zc (zJ (zn (zD (zr ?_))))
 refine zb ?_
 refine vO (xM rfl Tryz.func152 rfl rfl rfl (d0n _)) ?_
 refine xu ?_
 refine zb ?_
 refine yC ?_
 refine AO.opG rfl rfl rfl (fun hp=>ve 17 rfl (by exact hp) (xM rfl Tryz.func153 rfl rfl rfl (c0R _))) ?_
 refine xc 18 ?_
 refine zW (zJ (zn ?_))
 refine yt (fun h2=> ?_) (fun h2=> ?_)<;>(try simp only[vT]at h2)
 ·have e:a0G b=(Msg.none,4):=by rw[a0G,if_neg hbn,if_neg (by rw[h2.1,h2.2];simp)]
  refine zD (zr ?_)
  refine zP ?_
  refine za 0 ?_
  refine zc (zJ (zn (xj (xx ?_))))
  refine wa yd zl (g0e e)
 have hc:rq ((bt b 0).toNat:Int)=true∨rs ((bt b 0).toNat:Int)=true:=by cases hq:rq ((bt b 0).toNat:Int)<;>simp_all
 have e:a0G b=((c0k (unB b)).1,(c0k (unB b)).2):=by rw[a0G,if_neg hbn,if_pos hc]
 refine y6 (zn (zD ?_))
 refine AW.regionM [(0,false),(1,false),(2,false),(4,false),(5,false),(3,true),(6,true),(7,false),(8,false),(9,false),(10,true),(11,false)] (by kernel_rfl) (by kernel_rfl) (by exact(by exact a0K 2 0 rfl rfl a0g)) ?_
 dsimp only[List.eraseIdx]
 refine yW ?_
 refine vQ rfl ya ?_
 refine vQ rfl (O.loadR rfl rfl (by exact b0l (k:=0) hb0 rfl)) ?_
 refine yW ?_
 refine vQ rfl (O.sliceFromB (k:=1) rfl rfl rfl (by rfl) (by omega)) ?_
 refine xN _ (fun w0 R0=> ?_)
 refine xy ?_
 intro B2
 refine AO.g ?_
 refine xT B2 4 4 0 rfl rfl rfl (Nat.le_refl _) ?_
 refine AO.u ?_
 dsimp only[List.set]
 refine AM.ok ?_
 dsimp only[a0q]
 refine xN _ (fun w0 R0=> ?_)
 refine xC 0 ?_
 intro V3 hV3
 refine AO.g ?_
 refine yQ 0 [28] ?_
 refine AO.u ?_
 dsimp only[List.map,List.eraseIdx,cA,cN]
 refine AM.ok ?_
 dsimp only[a0q]
 refine vQ rfl (xM rfl Tryz.func173 rfl rfl rfl (p0t (by rw[h0J hb0,List.length_drop];omega) (i0I hb0).symm (by rw[h0J hb0];omega))) ?_
 refine vQ rfl yj ?_
 refine vQ rfl yj ?_
 refine xN _ (fun w0 R0=> ?_)
 refine za 0 (vI ?_)
 dsimp only[a0q]
 refine wb ?_
 refine vd ?_
 dsimp only[cA,cN]
 refine zn (xj ?_)
 refine wa yd yR (g0e e)
theorem m0s (b:List UInt8)(hb:b.length≤900000):Sp Tryz.prog 174 [roB b] [] (Is (i0S (a0G b))):=by
 refine yX Tryz.func174 _ Tryz.ntmps174 (fun w0 R0=> ?_)
 refine zD (zr ?_)
 refine zd ?_
 intro B1
 refine zc (zJ (zn (zD (zD (zr ?_)))))
 refine zb ?_
 refine zX ?_
 refine z8 (zJ (zn ?_))
 refine yt (fun h=> ?_) (fun h=> ?_)<;>(try simp only[vT]at h)
 ·have e:a0G b=(Msg.none,2):=if_pos (List.eq_nil_of_length_eq_zero (by omega))
  refine zD (zr ?_)
  refine zP ?_
  refine za 0 ?_
  refine zc (zJ (zn (xj (xx ?_))))
  refine wa yd zl (g0e e)
 have hb0:0<b.length:=by omega
 have hbn:b≠ []:=fun e=>by rw[e]at hb0;cases hb0
 have hub:=b0B (bt b 0)
 refine y6 (zn (zD (zD (zr ?_))))
 refine zb ?_
 refine ye ?_
 refine vO (O.loadR rfl rfl (by exact b0l (k:=0) hb0 rfl)) ?_
 refine xU ?_
 refine zc (zJ (zn (zD (zr ?_))))
 refine zb ?_
 refine vO (xM rfl Tryz.func63 rfl rfl rfl (b0N _)) ?_
 refine xu ?_
 refine zb ?_
 refine yC ?_
 refine AO.opG rfl rfl rfl (fun hp=>ve 19 rfl (by exact hp) (xM rfl Tryz.func83 rfl rfl rfl (c0e _))) ?_
 refine xc 20 ?_
 refine zW (zJ (zn ?_))
 refine yt (fun h2=> ?_) (fun h2=> ?_)<;>(try simp only[vT]at h2)
 ·have e:a0G b=(Msg.none,4):=by rw[a0G,if_neg hbn,if_neg (by rw[h2.1,h2.2];simp)]
  refine zD (zr ?_)
  refine zP ?_
  refine za 0 ?_
  refine zc (zJ (zn (xj (xx ?_))))
  refine wa yd zl (g0e e)
 have hc:rq ((bt b 0).toNat:Int)=true∨rs ((bt b 0).toNat:Int)=true:=by cases hq:rq ((bt b 0).toNat:Int)<;>simp_all
 have e:a0G b=((c0k (unB b)).1,(c0k (unB b)).2):=by rw[a0G,if_neg hbn,if_pos hc]
 refine y6 (zn (zD ?_))
 refine AW.regionA _ (Al.mk' (i:=11) (d:=5) (T:=29) _ rfl rfl rfl rfl rfl (by(dsimp only[List.set,cA,cN,List.take,List.drop];done)) (by rfl)) [(0,false),(1,false),(2,false),(4,false),(5,false),(3,true),(6,true),(7,false),(8,false),(9,false),(10,false),(11,true),(12,true),(13,false)] (by kernel_rfl) (by kernel_rfl) (by exact a0g) ?_
 dsimp only[List.eraseIdx]
 refine AN.op rfl zg rfl rfl rfl ?_
 refine AN.op rfl ya rfl rfl rfl ?_
 refine AN.op rfl (O.loadR rfl rfl (by exact b0l (k:=0) hb0 rfl)) rfl rfl rfl ?_
 refine AN.op rfl zg rfl rfl rfl ?_
 refine AN.op rfl (O.sliceFromB (k:=1) rfl rfl rfl (by rfl) (by omega)) rfl rfl rfl ?_
 refine AN.main _ rfl rfl (fun w0 R0=> ?_)
 refine xy ?_
 intro B2
 refine AO.g ?_
 refine xT B2 4 4 0 rfl rfl rfl (Nat.le_refl _) ?_
 refine AO.u ?_
 dsimp only[List.set]
 refine AM.ok ?_
 dsimp only[a0q]
 refine AN.main _ rfl rfl (fun w0 R0=> ?_)
 refine xC 0 ?_
 intro V3 hV3
 refine AO.g ?_
 refine yQ 0 [31] ?_
 refine AO.u ?_
 dsimp only[List.map,List.eraseIdx,cA,cN]
 refine AM.ok ?_
 dsimp only[a0q]
 refine AN.op rfl (xM rfl Tryz.func191 rfl rfl rfl (m0w (by rw[h0J hb0,List.length_drop];omega) (i0I hb0).symm (by rw[h0J hb0];omega))) rfl rfl rfl ?_
 refine AN.op rfl zg rfl rfl rfl ?_
 refine AN.op rfl yj rfl rfl rfl ?_
 refine AN.op rfl yj rfl rfl rfl ?_
 refine AN.box rfl ?_
 intro B4
 dsimp only[Al.he]
 refine AN.main _ rfl rfl (fun w0 R0=> ?_)
 refine za 0 (vI ?_)
 dsimp only[a0q]
 refine AN.op rfl zj rfl rfl rfl ?_
 refine AN.nil ?_
 dsimp only[cA,cN]
 refine zn (zD (zD (zr ?_)))
 refine zb ?_
 refine y2 (zJ (zn ?_))
 refine yt (fun h5=> ?_) (fun h5=> ?_)<;>(try simp only[vT]at h5)
 ·have e2:a0G b=(Msg.none,(c0k (unB b)).2):=by rw[e,p0w _ h5]
  refine zD (zr ?_)
  refine zP ?_
  refine zb ?_
  refine za 1 ?_
  refine zc (zJ (zn (xj (xx ?_))))
  refine wa zm zl (g0e e2)
 have hz:=r0y b h5
 have e2:a0G b=(⟨0,(c0k (unB b)).1.code,0,[],(c0k (unB b)).1.opts,(c0k (unB b)).1.pay⟩,0):=by
  rw[e,h5]
  refine congrArg (fun z=>(z,(0:Int))) ?_
  generalize(c0k (unB b)).1=m at hz
  obtain⟨ty,code,id,tok,opts,pay⟩:=m
  obtain⟨rfl,rfl,rfl⟩:=hz
  rfl
 refine y6 (zn (zD (zr ?_)))
 refine zq ?_
 refine zv ?_
 refine zq ?_
 refine zv ?_
 refine zq ?_
 refine zv ?_
 refine zP ?_
 refine za 1 ?_
 refine zc (zJ (zn (xj ?_)))
 refine wa zm zl (g0e e2)
end Go.Proofs.YtojomcdjcpmnkaaGreat.By
