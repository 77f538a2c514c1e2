/-
  Texts laid together (part 4): what the statement's walk and plain law need. No condition.
-/
import Derived.Test.YtojomcdjcpmnkaaGreatZn3
set_option linter.unusedVariables false
set_option linter.unusedSimpArgs false
set_option maxRecDepth 20000
set_option maxHeartbeats 4000000
namespace Go.Proofs.YtojomcdjcpmnkaaGreat.By
open Go.RowKit L A Dk
attribute [local irreducible] AW AQ AO
def Cmp.zero:Cmp:=⟨0,false,[],false,[],false⟩
def q0E (f:Nat)(piv:Int)(hc:Bool)(ctx t:List UInt8):Cmp×Int:=
 if f&&&8=0 then(if 0<t.length then(.zero,9)else(⟨piv,false,[],hc,ctx,(((f&&&32:Nat):Int) !=0)⟩,0))
 else if 7<t.length then(.zero,8)else(⟨piv,true,t,hc,ctx,(((f&&&32:Nat):Int) !=0)⟩,0)
def i0C (f:Nat)(piv:Int)(s:List UInt8):Cmp×Int:=
 if f&&&16=0 then q0E f piv false [] s
 else if s.length=0 then(.zero,2)else if 16<(bt s 0).toNat then(.zero,8)else if s.length<1+(bt s 0).toNat then(.zero,2)else q0E f piv true ((s.drop 1).take (bt s 0).toNat) (s.drop (1+(bt s 0).toNat))
def u0E (f:Nat)(r:List UInt8):Cmp×Int:=
 if r.length<f%8 then(.zero,2)else if 0<f%8 then(if(d0d (r.take (f%8))).2≠0 then(.zero,(d0d (r.take (f%8))).2)else i0C f (d0d (r.take (f%8))).1 (r.drop (f%8)))else i0C f (-1) (r.drop (f%8))
def n0J (b:List UInt8):Cmp×Int:=
 if b.length=0 then(⟨-1,false,[],false,[],false⟩,0)else if 30<b.length then(.zero,8)
 else if(bt b 0).toNat=0∨64≤(bt b 0).toNat∨5<(bt b 0).toNat%8 then(.zero,4)else u0E (bt b 0).toNat (b.drop 1)
abbrev t0u (r:Cmp×Int):AV:= .tup [s0X r.1,.val (.int .i64 r.2)]
theorem d0r {q:AV}{r:Cmp×Int}{c:Cmp}{e:Int}(h:r=(c,e))(hq:q= .tup [s0X c,.val (.int .i64 e)]):Is (t0u r) q []:=by subst h;exact⟨hq,rfl⟩
theorem l0B (b:List UInt8):Sp Tryz.prog 70 [roB b] [] (Is (t0u (n0J b))):=by
 obtain⟨res,hres⟩: ∃res,n0J b=res:=⟨_,rfl⟩
 rw[hres]
 unfold n0J at hres
 refine yH Tryz.func70 _ Tryz.ntmps70 (fun w0 R0=> ?_)
 refine zC (zq ?_)
 refine zd ?_
 intro B
 refine zc (zH (zn (zC (zq ?_))))
 refine zM ?_
 refine zd ?_
 intro B
 refine za 0 (zH (zn (zC (zC (zq ?_)))))
 refine zb ?_
 refine zZ ?_
 refine yi (zH (zn ?_))
 rename_i B1
 refine ym (fun h0=> ?_) (fun h0=> ?_)<;>(try simp only[vU]at h0)
 ·rw[if_pos (by omega)]at hres
  refine zC (zq ?_)
  refine zI ?_
  refine za 1 ?_
  refine zc (zH (zn (y3 (xh ?_))))
  refine x9 zo zk (d0r hres.symm rfl)
 rw[if_neg (by omega)]at hres
 refine yU (zn (zC (zC (zq ?_))))
 refine zb ?_
 refine zZ ?_
 refine yN (zH (zn ?_))
 refine ym (fun h1=> ?_) (fun h1=> ?_)<;>(try simp only[vU]at h1)
 ·rw[if_pos (by omega)]at hres
  refine zC (zq ?_)
  refine zM ?_
  refine za 1 ?_
  refine zc (zH (zn (y3 (xh ?_))))
  refine x9 zo zk (d0r hres.symm rfl)
 rw[if_neg (by omega)]at hres
 have hx:=b0t (bt b 0)
 obtain⟨f,hf⟩: ∃f,f=(bt b 0).toNat:=⟨_,rfl⟩
 rw[←hf]at hres hx
 refine yU (zn (zC (zq ?_)))
 refine zb ?_
 refine yf ?_
 refine vO (O.loadR rfl rfl (by exact b0a (k:=0) (by omega) rfl)) ?_
 refine zc (zH (zn (zC (zq ?_))))
 refine zb ?_
 refine vO (O.and_ rfl rfl rfl (j0z 3 (by decide) (by decide) (m:=8) (by decide) (by omega))) ?_
 refine xM ?_
 refine zc (zH (zn (zC (zC (zq ?_)))))
 refine zb ?_
 refine yi ?_
 refine zb ?_
 refine yl ?_
 refine AO.opG rfl rfl rfl (fun hp=>wP 28 rfl (by exact hp) wN) ?_
 refine zG ?_
 refine zb ?_
 refine yl ?_
 refine yy 32 ?_
 refine zG (zH (zn ?_))
 rw[←hf]
 refine ym (fun h2=> ?_) (fun h2=> ?_)<;>(try simp only[vU]at h2)
 ·rw[if_pos (by omega)]at hres
  refine zC (zq ?_)
  refine zM ?_
  refine za 1 ?_
  refine zc (zH (zn (y3 (xh ?_))))
  refine x9 zo zk (d0r hres.symm rfl)
 rw[if_neg (by omega)]at hres
 unfold u0E at hres
 have hn8:(f:Int)%8=((f%8:Nat):Int):=by omega
 rw[hn8]
 obtain⟨n,hn⟩: ∃n,n=f%8:=⟨_,rfl⟩
 rw[←hn]at hres⊢
 have hn5:n≤5:=by omega
 refine yU (zn (zC (zq ?_)))
 refine zb ?_
 refine vO (O.and_ rfl rfl rfl (k0D (c:=32) (by omega) (by decide))) ?_
 refine y8 ?_
 refine zt ?_
 refine za 0 (zH (zn (zC (zq ?_))))
 refine zb ?_
 refine vO (O.sliceFromB (k:=1) rfl rfl rfl (by rfl) (by omega)) ?_
 refine zc (zH (zn (zC (zC (zq ?_)))))
 refine zb ?_
 refine zZ ?_
 refine zb ?_
 refine zR (zH (zn ?_))
 have hl1:(b.drop 1).length=b.length-1:=by simp
 obtain⟨r,hr⟩: ∃r,r=b.drop 1:=⟨_,rfl⟩
 rw[←hr]at hres hl1⊢
 refine ym (fun h3=> ?_) (fun h3=> ?_)<;>(try simp only[vU]at h3)
 ·rw[if_pos (by omega)]at hres
  refine zC (zq ?_)
  refine zM ?_
  refine za 1 ?_
  refine zc (zH (zn (y3 (xh ?_))))
  refine x9 zo zk (d0r hres.symm rfl)
 rw[if_neg (by omega)]at hres
 refine yU (zn (zC (zC (zq ?_))))
 refine zb ?_
 refine yN (zH (zn ?_))
 refine wh (i0C f (if 0<n then(d0d (r.take n)).1 else -1) (r.drop n)=res) [(2,_),(4,_),(5,_),(6,_)] [(0,roB r)] [.blk B 52 6 [.val (.int .i64 (if 0<n then(d0d (r.take n)).1 else -1)),.val (.bool false),.val (.slice none 0 0),.val (.bool false),.val (.slice none 0 0),.val (.bool ((((f&&&32:Nat):Int) !=0)))],.blk B1 52 6 [.val (.int .i64 0),.val (.bool false),.val (.slice none 0 0),.val (.bool false),.val (.slice none 0 0),.val (.bool false)]] (fun h4=> ?_) (fun h4=> ?_) (fun hj=> ?_)<;>try(try simp only[vU]at h4)
 ·have h4:0<n:=by omega
  rw[if_pos h4]at hres
  refine zC (zq ?_)
  refine zb ?_
  refine zb ?_
  refine vO (O.sliceToB rfl rfl rfl (by rfl) (by omega)) ?_
  refine vO (xD rfl Tryz.func129 rfl rfl rfl (n0e _)) ?_
  refine zb ?_
  refine zW ?_
  refine zW ?_
  refine zc ?_
  refine zc (zH (zn (zC (zC (zq ?_)))))
  refine zb ?_
  refine y8 (zH (zn ?_))
  refine ym (fun h5=> ?_) (fun h5=> ?_)<;>(try simp only[vU]at h5)
  ·rw[if_pos h5]at hres
   refine zC (zq ?_)
   refine zM ?_
   refine zb ?_
   refine za 1 ?_
   refine zc (zH (zn (y3 (xh ?_))))
   refine AQ.midR (xh ?_)
   refine x9 zo zk (d0r hres.symm rfl)
  rw[if_neg (by omega)]at hres
  rw[if_pos h4]
  refine yU (zn (zq ?_))
  refine zb ?_
  refine zt ?_
  refine za 0 (zH ?_)
  refine wJ hres
 ·have h4: ¬0<n:=by omega
  rw[if_neg h4]at hres
  rw[if_neg h4]
  refine yU ?_
  refine wJ hres
 dsimp only[cA,cN]
 refine zn ?_
 obtain⟨piv,hp⟩: ∃piv,piv=(if 0<n then(d0d (r.take n)).1 else -1):=⟨_,rfl⟩
 rw[←hp]at hj⊢
 clear hres
 refine zC (zq ?_)
 refine zb ?_
 refine zb ?_
 refine vO (O.sliceFromB rfl rfl rfl (by rfl) (by omega)) ?_
 refine zc (zH (zn (zC (zC (zq ?_)))))
 refine zb ?_
 refine vO (O.and_ rfl rfl rfl (k0D (c:=16) (by omega) (by decide))) ?_
 refine y8 (zH (zn ?_))
 have hl2:(r.drop n).length=r.length-n:=by simp
 obtain⟨s,hs⟩: ∃s,s=r.drop n:=⟨_,rfl⟩
 rw[←hs]at hj hl2⊢
 unfold i0C at hj
 have hfl: ∀c:Nat,((f&&&c:Nat):Int)=0↔f&&&c=0:=fun c=>by omega
 refine ym (fun h6=> ?_) (fun h6=> ?_)<;>(try simp only[vU]at h6)
 ·rw[if_neg (by omega)]at hj
  refine zC (zC (zq ?_))
  refine zb ?_
  refine zZ ?_
  refine yi (zH (zn ?_))
  refine ym (fun h7=> ?_) (fun h7=> ?_)<;>(try simp only[vU]at h7)
  ·rw[if_pos (by omega)]at hj
   refine zC (zq ?_)
   refine zM ?_
   refine za 1 ?_
   refine zc (zH (zn (y3 (xh (xh ?_)))))
   refine x9 zo zk (d0r hj.symm rfl)
  rw[if_neg (by omega)]at hj
  have hxs:=b0t (bt s 0)
  obtain⟨m,hm⟩: ∃m,m=(bt s 0).toNat:=⟨_,rfl⟩
  rw[←hm]at hj hxs
  refine yU (zn (zC (zq ?_)))
  refine zb ?_
  refine yf ?_
  refine vO (O.loadR rfl rfl (by exact b0a (k:=0) (by omega) rfl)) ?_
  refine xM ?_
  refine zc (zH (zn (zC (zC (zq ?_)))))
  refine zb ?_
  refine yN (zH (zn ?_))
  rw[←hm]
  refine ym (fun h8=> ?_) (fun h8=> ?_)<;>(try simp only[vU]at h8)
  ·rw[if_pos (by omega)]at hj
   refine zC (zq ?_)
   refine zM ?_
   refine za 1 ?_
   refine zc (zH (zn (y3 (xh (xh ?_)))))
   refine x9 zo zk (d0r hj.symm rfl)
  rw[if_neg (by omega)]at hj
  refine yU (zn (zC (zC (zq ?_))))
  refine zb ?_
  refine zZ ?_
  refine zb ?_
  refine zx ?_
  refine zR (zH (zn ?_))
  refine ym (fun h9=> ?_) (fun h9=> ?_)<;>(try simp only[vU]at h9)
  ·rw[if_pos (by omega)]at hj
   refine zC (zq ?_)
   refine zM ?_
   refine za 1 ?_
   refine zc (zH (zn (y3 (xh (xh ?_)))))
   refine x9 zo zk (d0r hj.symm rfl)
  rw[if_neg (by omega)]at hj
  have hl3:(s.drop (1+m)).length=s.length-(1+m):=by simp
  have e9:(s.drop 1).take (1+m-1)=(s.drop 1).take m:=by rw[show 1+m-1=m by omega]
  refine yU (zn (zC (zq ?_)))
  refine zb ?_
  refine zb ?_
  refine zx ?_
  refine vO (O.sliceLHB rfl rfl rfl rfl (lo:=1) (hi:=1+m) (by rfl) (by rfl) (by omega) (by omega)) ?_
  refine yT ?_
  intro V hV
  refine AO.g ?_
  refine yL 0 [89] ?_
  refine AO.u ?_
  dsimp only[List.map,List.eraseIdx,cA,cN]
  refine zt ?_
  refine za 0 ?_
  refine zt ?_
  refine za 0 (zH (zn (zq ?_)))
  refine zb ?_
  refine zb ?_
  refine zx ?_
  refine vO (O.sliceFromB (k:=1+m) rfl rfl rfl (by rfl) (by omega)) ?_
  refine zc (zH (zn (zC (zC (zq ?_)))))
  refine zb ?_
  refine vO (O.and_ rfl rfl rfl (k0D (c:=8) (by omega) (by decide))) ?_
  refine yi (zH (zn ?_))
  rw[e9]
  unfold q0E at hj
  refine ym (fun h7=> ?_) (fun h7=> ?_)<;>(try simp only[vU]at h7)
  ·rw[if_pos (by omega)]at hj
   refine zC (zC (zq ?_))
   refine zb ?_
   refine zZ ?_
   refine yN (zH (zn ?_))
   refine ym (fun h8=> ?_) (fun h8=> ?_)<;>(try simp only[vU]at h8)
   ·rw[if_pos (by omega)]at hj
    refine zC (zq ?_)
    refine zM ?_
    refine za 1 ?_
    refine zc (zH (zn (y3 (xh (xh ?_)))))
    refine x9 zo zk (d0r hj.symm rfl)
   rw[if_neg (by omega)]at hj
   refine yU (zn (zC (zq ?_)))
   refine zI ?_
   refine za 1 ?_
   refine zc (zH (zn (y3 (xh ?_))))
   refine x9 zo zk (d0r hj.symm rfl)
  rw[if_neg (by omega)]at hj
  refine yU (zn (zC (zC (zq ?_))))
  refine zb ?_
  refine zZ ?_
  refine yN (zH (zn ?_))
  refine ym (fun h8=> ?_) (fun h8=> ?_)<;>(try simp only[vU]at h8)
  ·rw[if_pos (by omega)]at hj
   refine zC (zq ?_)
   refine zM ?_
   refine za 1 ?_
   refine zc (zH (zn (y3 (xh ?_))))
   refine x9 zo zk (d0r hj.symm rfl)
  rw[if_neg (by omega)]at hj
  refine yU (zn (zC (zq ?_)))
  refine zb ?_
  refine yA ?_
  intro V hV
  refine AO.g ?_
  refine yL 0 [109] ?_
  refine AO.u ?_
  dsimp only[List.map,List.eraseIdx,cA,cN]
  refine zt ?_
  refine za 0 ?_
  refine zt ?_
  refine za 0 (zH (zn (zC (zq ?_))))
  refine zI ?_
  refine za 1 ?_
  refine zc (zH (zn (y3 ?_)))
  refine x9 zo yQ (d0r hj.symm rfl)
 rw[if_pos (by omega)]at hj
 unfold q0E at hj
 refine yU (zn (zC (zC (zq ?_))))
 refine zb ?_
 refine vO (O.and_ rfl rfl rfl (k0D (c:=8) (by omega) (by decide))) ?_
 refine yi (zH (zn ?_))
 refine ym (fun h7=> ?_) (fun h7=> ?_)<;>(try simp only[vU]at h7)
 ·rw[if_pos (by omega)]at hj
  refine zC (zC (zq ?_))
  refine zb ?_
  refine zZ ?_
  refine yN (zH (zn ?_))
  refine ym (fun h8=> ?_) (fun h8=> ?_)<;>(try simp only[vU]at h8)
  ·rw[if_pos (by omega)]at hj
   refine zC (zq ?_)
   refine zM ?_
   refine za 1 ?_
   refine zc (zH (zn (y3 (xh (xh ?_)))))
   refine x9 zo zk (d0r hj.symm rfl)
  rw[if_neg (by omega)]at hj
  refine yU (zn (zC (zq ?_)))
  refine zI ?_
  refine za 1 ?_
  refine zc (zH (zn (y3 (xh ?_))))
  refine x9 zo zk (d0r hj.symm rfl)
 rw[if_neg (by omega)]at hj
 refine yU (zn (zC (zC (zq ?_))))
 refine zb ?_
 refine zZ ?_
 refine yN (zH (zn ?_))
 refine ym (fun h8=> ?_) (fun h8=> ?_)<;>(try simp only[vU]at h8)
 ·rw[if_pos (by omega)]at hj
  refine zC (zq ?_)
  refine zM ?_
  refine za 1 ?_
  refine zc (zH (zn (y3 (xh ?_))))
  refine x9 zo zk (d0r hj.symm rfl)
 rw[if_neg (by omega)]at hj
 refine yU (zn (zC (zq ?_)))
 refine zb ?_
 refine yA ?_
 intro V hV
 refine AO.g ?_
 refine yL 0 [109] ?_
 refine AO.u ?_
 dsimp only[List.map,List.eraseIdx,cA,cN]
 refine zt ?_
 refine za 0 ?_
 refine zt ?_
 refine za 0 (zH (zn (zC (zq ?_))))
 refine zI ?_
 refine za 1 ?_
 refine zc (zH (zn (y3 ?_)))
 refine x9 zo zk (d0r hj.symm rfl)
theorem i0Y (b:List UInt8):Sp Tryz.prog 72 [roB b] [] (Is (t0u (n0J b))):=by
 obtain⟨res,hres⟩: ∃res,n0J b=res:=⟨_,rfl⟩
 rw[hres]
 unfold n0J at hres
 refine yH Tryz.func72 _ Tryz.ntmps72 (fun w0 R0=> ?_)
 refine zC (zq ?_)
 refine zd ?_
 intro B
 refine zc (zH (zn (zC (zq ?_))))
 refine zM ?_
 refine zd ?_
 intro B
 refine za 0 (zH (zn (zC (zC (zq ?_)))))
 refine zb ?_
 refine zZ ?_
 refine yN (zH (zn ?_))
 rename_i B1
 refine ym (fun h0=> ?_) (fun h0=> ?_)<;>(try simp only[vU]at h0)
 ·rw[if_neg (by omega),if_pos (by omega)]at hres
  refine zC (zq ?_)
  refine zM ?_
  refine za 1 ?_
  refine zc (zH (zn (y3 (xh ?_))))
  refine x9 zo zk (d0r hres.symm rfl)
 refine yU (zn (zC (zC (zq ?_))))
 refine zb ?_
 refine zZ ?_
 refine yi (zH (zn ?_))
 refine ym (fun h1=> ?_) (fun h1=> ?_)<;>(try simp only[vU]at h1)
 ·rw[if_pos (by omega)]at hres
  refine zC (zq ?_)
  refine zI ?_
  refine za 1 ?_
  refine zc (zH (zn (y3 (xh ?_))))
  refine x9 zo zk (d0r hres.symm rfl)
 rw[if_neg (by omega),if_neg (by omega)]at hres
 have hx:=b0t (bt b 0)
 obtain⟨f,hf⟩: ∃f,f=(bt b 0).toNat:=⟨_,rfl⟩
 rw[←hf]at hres hx
 refine yU (zn (zC (zq ?_)))
 refine zb ?_
 refine yf ?_
 refine vO (O.loadR rfl rfl (by exact b0a (k:=0) (by omega) rfl)) ?_
 refine xM ?_
 refine zc (zH (zn (zC (zq ?_))))
 refine zb ?_
 refine vO (O.rem rfl rfl rfl (by omega) rfl) ?_
 refine zc (zH (zn (zC (zC (zq ?_)))))
 refine zb ?_
 refine yi ?_
 refine zb ?_
 refine yl ?_
 refine yy 28 ?_
 refine zG ?_
 refine zb ?_
 refine yl ?_
 refine yy 32 ?_
 refine zG (zH (zn ?_))
 rw[←hf]
 have htm:(f:Int).tmod 8=(f:Int)%8:=Int.tmod_eq_emod_of_nonneg (by omega)
 simp only[htm]
 refine ym (fun h2=> ?_) (fun h2=> ?_)<;>(try simp only[vU]at h2)
 ·rw[if_pos (by omega)]at hres
  refine zC (zq ?_)
  refine zM ?_
  refine za 1 ?_
  refine zc (zH (zn (y3 (xh ?_))))
  refine x9 zo zk (d0r hres.symm rfl)
 rw[if_neg (by omega)]at hres
 unfold u0E at hres
 have hn8:(f:Int)%8=((f%8:Nat):Int):=by omega
 rw[hn8]
 obtain⟨n,hn⟩: ∃n,n=f%8:=⟨_,rfl⟩
 rw[←hn]at hres⊢
 have hn5:n≤5:=by omega
 refine yU (zn (zC (zq ?_)))
 refine zb ?_
 refine vO (O.and_ rfl rfl rfl (j0A (c:=8) (by omega) (by decide))) ?_
 refine y8 ?_
 refine zb ?_
 refine vO (O.and_ rfl rfl rfl (j0A (c:=16) (by omega) (by decide))) ?_
 refine y8 ?_
 refine zb ?_
 refine vO (O.and_ rfl rfl rfl (j0A (c:=32) (by omega) (by decide))) ?_
 refine y8 ?_
 refine zt ?_
 refine za 0 ?_
 refine zt ?_
 refine za 0 ?_
 refine zt ?_
 refine za 0 (zH (zn (zC (zq ?_))))
 refine zb ?_
 refine vO (O.sliceFromB (k:=1) rfl rfl rfl (by rfl) (by omega)) ?_
 refine zc (zH (zn (zC (zC (zq ?_)))))
 refine zb ?_
 refine zZ ?_
 refine zb ?_
 refine zR (zH (zn ?_))
 have hl1:(b.drop 1).length=b.length-1:=by simp
 obtain⟨r,hr⟩: ∃r,r=b.drop 1:=⟨_,rfl⟩
 rw[←hr]at hres hl1⊢
 refine ym (fun h3=> ?_) (fun h3=> ?_)<;>(try simp only[vU]at h3)
 ·rw[if_pos (by omega)]at hres
  refine zC (zq ?_)
  refine zM ?_
  refine za 1 ?_
  refine zc (zH (zn (y3 (xh ?_))))
  refine x9 zo zk (d0r hres.symm rfl)
 rw[if_neg (by omega)]at hres
 refine yU (zn (zC (zC (zq ?_))))
 refine zb ?_
 refine yN (zH (zn ?_))
 refine wh (i0C f (if 0<n then(d0d (r.take n)).1 else -1) (r.drop n)=res) [(2,_),(4,_),(6,_)] [(0,roB r)] [.blk B 52 6 [.val (.int .i64 (if 0<n then(d0d (r.take n)).1 else -1)),.val (.bool (((f&&&8:Nat):Int) !=0)),.val (.slice none 0 0),.val (.bool (((f&&&16:Nat):Int) !=0)),.val (.slice none 0 0),.val (.bool (((f&&&32:Nat):Int) !=0))],.blk B1 52 6 [.val (.int .i64 0),.val (.bool false),.val (.slice none 0 0),.val (.bool false),.val (.slice none 0 0),.val (.bool false)]] (fun h4=> ?_) (fun h4=> ?_) (fun hj=> ?_)<;>try(try simp only[vU]at h4)
 ·have h4:0<n:=by omega
  rw[if_pos h4]at hres
  refine zC (zq ?_)
  refine zb ?_
  refine zb ?_
  refine vO (O.sliceToB rfl rfl rfl (by rfl) (by omega)) ?_
  refine vO (xD rfl Tryz.func130 rfl rfl rfl (k0T _)) ?_
  refine zb ?_
  refine zW ?_
  refine zW ?_
  refine zc ?_
  refine zc (zH (zn (zC (zC (zq ?_)))))
  refine zb ?_
  refine y8 (zH (zn ?_))
  refine ym (fun h5=> ?_) (fun h5=> ?_)<;>(try simp only[vU]at h5)
  ·rw[if_pos h5]at hres
   refine zC (zq ?_)
   refine zM ?_
   refine zb ?_
   refine za 1 ?_
   refine zc (zH (zn (y3 (xh ?_))))
   refine AQ.midR (xh ?_)
   refine x9 zo zk (d0r hres.symm rfl)
  rw[if_neg (by omega)]at hres
  rw[if_pos h4]
  refine yU (zn (zq ?_))
  refine zb ?_
  refine zt ?_
  refine za 0 (zH ?_)
  refine wJ hres
 ·have h4: ¬0<n:=by omega
  rw[if_neg h4]at hres
  rw[if_neg h4]
  refine yU ?_
  refine wJ hres
 dsimp only[cA,cN]
 refine zn ?_
 obtain⟨piv,hp⟩: ∃piv,piv=(if 0<n then(d0d (r.take n)).1 else -1):=⟨_,rfl⟩
 rw[←hp]at hj⊢
 clear hres
 refine zC (zq ?_)
 refine zb ?_
 refine zb ?_
 refine vO (O.sliceFromB rfl rfl rfl (by rfl) (by omega)) ?_
 refine zc (zH (zn (zC (zC (zq ?_)))))
 refine zt ?_
 refine zA (zH (zn ?_))
 have hl2:(r.drop n).length=r.length-n:=by simp
 obtain⟨s,hs⟩: ∃s,s=r.drop n:=⟨_,rfl⟩
 rw[←hs]at hj hl2⊢
 unfold i0C at hj
 have hfl: ∀c:Nat,((f&&&c:Nat):Int)=0↔f&&&c=0:=fun c=>by omega
 refine ym (fun h6=> ?_) (fun h6=> ?_)<;>(try simp only[vU]at h6)
 ·have hb16:(((f&&&16:Nat):Int) !=0)=true:=bne_iff_ne.2 (by omega)
  rw[if_neg (by omega)]at hj
  refine zC (zC (zq ?_))
  refine zb ?_
  refine zZ ?_
  refine yi (zH (zn ?_))
  refine ym (fun h7=> ?_) (fun h7=> ?_)<;>(try simp only[vU]at h7)
  ·rw[if_pos (by omega)]at hj
   refine zC (zq ?_)
   refine zM ?_
   refine za 1 ?_
   refine zc (zH (zn (y3 (xh (xh ?_)))))
   refine x9 zo zk (d0r hj.symm rfl)
  rw[if_neg (by omega)]at hj
  have hxs:=b0t (bt s 0)
  obtain⟨m,hm⟩: ∃m,m=(bt s 0).toNat:=⟨_,rfl⟩
  rw[←hm]at hj hxs
  refine yU (zn (zC (zq ?_)))
  refine zb ?_
  refine yf ?_
  refine vO (O.loadR rfl rfl (by exact b0a (k:=0) (by omega) rfl)) ?_
  refine xM ?_
  refine zc (zH (zn (zC (zC (zq ?_)))))
  refine zb ?_
  refine yN (zH (zn ?_))
  rw[←hm]
  refine ym (fun h8=> ?_) (fun h8=> ?_)<;>(try simp only[vU]at h8)
  ·rw[if_pos (by omega)]at hj
   refine zC (zq ?_)
   refine zM ?_
   refine za 1 ?_
   refine zc (zH (zn (y3 (xh (xh ?_)))))
   refine x9 zo zk (d0r hj.symm rfl)
  rw[if_neg (by omega)]at hj
  refine yU (zn (zC (zC (zq ?_))))
  refine zb ?_
  refine zZ ?_
  refine zb ?_
  refine zx ?_
  refine zR (zH (zn ?_))
  refine ym (fun h9=> ?_) (fun h9=> ?_)<;>(try simp only[vU]at h9)
  ·rw[if_pos (by omega)]at hj
   refine zC (zq ?_)
   refine zM ?_
   refine za 1 ?_
   refine zc (zH (zn (y3 (xh (xh ?_)))))
   refine x9 zo zk (d0r hj.symm rfl)
  rw[if_neg (by omega)]at hj
  have hl3:(s.drop (1+m)).length=s.length-(1+m):=by simp
  have e9:(s.drop 1).take (1+m-1)=(s.drop 1).take m:=by rw[show 1+m-1=m by omega]
  refine yU (zn ?_)
  refine AW.regionM [(0,false),(1,false),(2,false),(3,false),(4,false),(5,false),(6,false),(7,false),(8,false),(9,false),(10,true),(11,true)] (by kernel_rfl) (by kernel_rfl) (by exact(by exact a0h 4 0 rfl rfl a0c)) ?_
  dsimp only[List.eraseIdx]
  refine y0 ?_
  refine y0 ?_
  refine vQ rfl zD ?_
  refine vQ rfl (O.sliceLHB rfl rfl rfl rfl (lo:=1) (hi:=1+m) (by rfl) (by rfl) (by omega) (by omega)) ?_
  (refine AM.op rfl (O.call rfl Tryz.func69 rfl rfl rfl (a0o _ (by(simp<;>omega)))) rfl rfl rfl ?_)
  refine y0 ?_
  refine y0 ?_
  refine vQ rfl zD ?_
  refine vQ rfl (O.sliceFromB (k:=1+m) rfl rfl rfl (by rfl) (by omega)) ?_
  refine xl ?_
  refine xU _ (fun w0 R0=> ?_)
  refine za 0 (AM.okN ?_)
  dsimp only[a0w]
  refine xU _ (fun w0 R0=> ?_)
  refine zc ?_
  refine AM.ok ?_
  dsimp only[a0w]
  refine vn ?_
  dsimp only[cA,cN]
  refine zn (zC (zC (zq ?_)))
  refine zt ?_
  refine zA ?_
  refine xo ?_
  refine zb ?_
  refine yl ?_
  refine yg 106 ?_
  refine yy 107 ?_
  refine zN (zH (zn ?_))
  rw[e9]
  unfold q0E at hj
  refine ym (fun h7=> ?_) (fun h7=> ?_)<;>(try simp only[vU]at h7)
  ·rw[if_pos (by omega),if_pos (by omega)]at hj
   refine zC (zq ?_)
   refine zM ?_
   refine za 1 ?_
   refine zc (zH (zn (y3 (xh ?_))))
   refine x9 zo zk (d0r hj.symm rfl)
  refine yU (zn (zC (zC (zq ?_))))
  refine zb ?_
  refine zZ ?_
  refine yN (zH (zn ?_))
  refine ym (fun h8=> ?_) (fun h8=> ?_)<;>(try simp only[vU]at h8)
  ·rw[if_neg (by omega),if_pos (by omega)]at hj
   refine zC (zq ?_)
   refine zM ?_
   refine za 1 ?_
   refine zc (zH (zn (y3 (xh ?_))))
   refine x9 zo zk (d0r hj.symm rfl)
  by_cases h10:f&&&8=0
  ·rw[if_pos h10,if_neg (by omega)]at hj
   have hnil:s.drop (1+m)= []:=List.eq_nil_of_length_eq_zero (by omega)
   have hne:(((f&&&8:Nat):Int) !=0)=false:=bne_eq_false_iff_eq.2 (by omega)
   simp only[hne,hb16,hnil]
   refine yU (zn (zC (zq ?_)))
   refine zb ?_
   (refine AO.op (O.call rfl Tryz.func69 rfl rfl rfl (a0o _ (by(simp<;>omega)))) rfl rfl rfl ?_)
   refine zt ?_
   refine za 0 (zH (zn (zC (zq ?_))))
   refine zI ?_
   refine za 1 ?_
   refine zc (zH (zn (y3 ?_)))
   refine x9 zo yQ (d0r hj.symm rfl)
  rw[if_neg h10,if_neg (by omega)]at hj
  have hne:(((f&&&8:Nat):Int) !=0)=true:=bne_iff_ne.2 (by omega)
  simp only[hne,hb16]
  refine yU (zn (zC (zq ?_)))
  refine zb ?_
  refine vO (xD rfl Tryz.func69 rfl rfl rfl (a0o _ (by omega))) ?_
  refine zt ?_
  refine za 0 (zH (zn (zC (zq ?_))))
  refine zI ?_
  refine za 1 ?_
  refine zc (zH (zn (y3 ?_)))
  refine x9 zo yQ (d0r hj.symm rfl)
 rw[if_pos (by omega)]at hj
 have hb16:(((f&&&16:Nat):Int) !=0)=false:=bne_eq_false_iff_eq.2 (by omega)
 unfold q0E at hj
 refine yU (zn (zC (zC (zq ?_))))
 refine zt ?_
 refine zA ?_
 refine xo ?_
 refine zb ?_
 refine yl ?_
 refine yg 106 ?_
 refine yy 107 ?_
 refine zN (zH (zn ?_))
 refine ym (fun h7=> ?_) (fun h7=> ?_)<;>(try simp only[vU]at h7)
 ·rw[if_pos (by omega),if_pos (by omega)]at hj
  refine zC (zq ?_)
  refine zM ?_
  refine za 1 ?_
  refine zc (zH (zn (y3 (xh ?_))))
  refine x9 zo zk (d0r hj.symm rfl)
 refine yU (zn (zC (zC (zq ?_))))
 refine zb ?_
 refine zZ ?_
 refine yN (zH (zn ?_))
 refine ym (fun h8=> ?_) (fun h8=> ?_)<;>(try simp only[vU]at h8)
 ·rw[if_neg (by omega),if_pos (by omega)]at hj
  refine zC (zq ?_)
  refine zM ?_
  refine za 1 ?_
  refine zc (zH (zn (y3 (xh ?_))))
  refine x9 zo zk (d0r hj.symm rfl)
 by_cases h10:f&&&8=0
 ·rw[if_pos h10,if_neg (by omega)]at hj
  have hnil:s= []:=List.eq_nil_of_length_eq_zero (by omega)
  have hne:(((f&&&8:Nat):Int) !=0)=false:=bne_eq_false_iff_eq.2 (by omega)
  simp only[hne,hb16,hnil]
  refine yU (zn (zC (zq ?_)))
  refine zb ?_
  (refine AO.op (O.call rfl Tryz.func69 rfl rfl rfl (a0o _ (by(simp<;>omega)))) rfl rfl rfl ?_)
  refine zt ?_
  refine za 0 (zH (zn (zC (zq ?_))))
  refine zI ?_
  refine za 1 ?_
  refine zc (zH (zn (y3 ?_)))
  refine x9 zo zk (d0r hj.symm rfl)
 rw[if_neg h10,if_neg (by omega)]at hj
 have hne:(((f&&&8:Nat):Int) !=0)=true:=bne_iff_ne.2 (by omega)
 simp only[hne,hb16]
 refine yU (zn (zC (zq ?_)))
 refine zb ?_
 refine vO (xD rfl Tryz.func69 rfl rfl rfl (a0o _ (by omega))) ?_
 refine zt ?_
 refine za 0 (zH (zn (zC (zq ?_))))
 refine zI ?_
 refine za 1 ?_
 refine zc (zH (zn (y3 ?_)))
 refine x9 zo zk (d0r hj.symm rfl)
end Go.Proofs.YtojomcdjcpmnkaaGreat.By
namespace Go.Proofs.YtojomcdjcpmnkaaGreat.By
open Go.RowKit L A
attribute [local irreducible] AW AQ AO
theorem r0X: ∀{x y:Opt},x.num=y.num→x.val=y.val→x=y
 |⟨_,_⟩,⟨_,_⟩,rfl,rfl=>rfl
theorem r0W {a b:List Opt}(h:a.length=b.length)(h2: ∀k,k<a.length→oat a k=oat b k):a=b:=by
 refine List.ext_getElem h fun k h3 h4=> ?_
 have:=h2 k h3
 simpa[oat,h3,h4]using this
theorem r0q (a b:Msg)(h0:a.opts.length≤140737488355328):Sp Tryz.prog 18 [b0n a,b0n b] [] (Is (.val (.bool (decide (a=b))))):=by
 refine yH Tryz.func18 _ Tryz.ntmps18 (fun w0 R0=> ?_)
 refine zC (zq ?_)
 refine z9 ?_
 intro B1
 refine z9 ?_
 intro B2
 refine zc (zH (zn (zC (zC (zq ?_)))))
 refine zt ?_
 refine zp ?_
 refine zt ?_
 refine zA ?_
 refine y8 ?_
 refine zb ?_
 refine zK ?_
 refine zT 13 ?_
 refine zK ?_
 refine zu 15 ?_
 refine AO.opG rfl rfl rfl (fun hp=>wP 14 rfl (by exact hp) (wP 16 rfl (by exact hp) xn)) ?_
 refine zG ?_
 refine zb ?_
 refine zK ?_
 refine zT 20 ?_
 refine zK ?_
 refine zu 22 ?_
 refine AO.opG rfl rfl rfl (fun hp=>wP 21 rfl (by exact hp) (wP 23 rfl (by exact hp) xn)) ?_
 refine zG ?_
 refine zb ?_
 refine zK ?_
 refine zT 27 ?_
 refine AO.opG rfl rfl rfl (fun hp=>wP 28 rfl (by exact hp) vK) ?_
 refine zK ?_
 refine zu 30 ?_
 refine AO.opG rfl rfl rfl (fun hp=>wP 31 rfl (by exact hp) vK) ?_
 refine AO.opG rfl rfl rfl (fun hp=>wP 29 rfl (by exact hp) (wP 32 rfl (by exact hp) (O.neqS rfl rfl rfl (by rfl)))) ?_
 refine zG ?_
 refine zb ?_
 refine zK ?_
 refine zT 36 ?_
 refine AO.opG rfl rfl rfl (fun hp=>wP 37 rfl (by exact hp) vK) ?_
 refine zK ?_
 refine zu 39 ?_
 refine AO.opG rfl rfl rfl (fun hp=>wP 40 rfl (by exact hp) vK) ?_
 refine AO.opG rfl rfl rfl (fun hp=>wP 38 rfl (by exact hp) (wP 41 rfl (by exact hp) (O.neqS rfl rfl rfl (by rfl)))) ?_
 refine zG ?_
 refine zb ?_
 refine zK ?_
 refine zT 45 ?_
 refine yg 46 ?_
 refine zK ?_
 refine zu 48 ?_
 refine yg 49 ?_
 refine AO.opG rfl rfl rfl (fun hp=>wP 47 rfl (by exact hp) (wP 50 rfl (by exact hp) xn)) ?_
 refine zG (zH (zn ?_))
 refine ym (fun h=> ?_) (fun h=> ?_)<;>(try simp only[vU]at h)
 ·have e:decide (a=b)=false:=decide_eq_false fun e=>by subst e;simp at h
  refine zC (zq ?_)
  refine zc (zH (zn (y3 (xh ?_))))
  refine vm rfl rfl nS (⟨congrArg (fun z=>AV.val (.bool z)) e.symm,rfl⟩)
 have hl:a.opts.length=b.opts.length:=by omega
 refine yU (zn (zC (zC (zq ?_))))
 refine zt ?_
 refine zp ?_
 refine zZ ?_
 refine zb (zH (zn (xb ?_)))
 refine zh [(3,_),(54,_),(55,_)] (fun nn E H=> ∃(k:Nat),(k≤a.opts.length)∧((∀i,i<k→oat a.opts i=oat b.opts i))∧nn=a.opts.length-k∧E= [(56,.val (.int .i64 (k:Int)))]∧H= [.blk B2 29 6 [.val (.int .i64 b.ty),.val (.int .i64 b.code),.val (.int .i64 b.id),roB b.tok,roO b.opts,roB b.pay],.blk B1 29 6 [.val (.int .i64 a.ty),.val (.int .i64 a.code),.val (.int .i64 a.id),roB a.tok,roO a.opts,roB a.pay]]) _ (⟨0,by omega,fun i hi=>absurd hi (by omega),rfl,rfl,rfl⟩) ?_
 rintro nn E H ⟨k,h4,ha,rfl,rfl,rfl⟩
 dsimp only[cA,cN]
 refine zC (zq ?_)
 refine zR (zH (zn (zC ?_)))
 refine ym (fun h5=> ?_) (fun h5=> ?_)<;>(try simp only[vU]at h5)
 ·have hk:k<a.opts.length:=by omega
  have hk2:k<b.opts.length:=by omega
  refine yU (zn (zC (xb (zC (zq ?_)))))
  refine zb ?_
  refine yf ?_
  refine yV ?_
  refine z7 ?_
  intro B3
  refine zc ?_
  refine zm 0 (zH (zn (zC ?_)))
  refine yo 22 ?_
  simp only[cT,cZ,cD,cO]
  refine yn ?_
  refine yM ?_
  refine yn ?_
  refine zO ?_
  refine zE ?_
  refine xd ?_
  refine vP (O.fieldAddrR rfl rfl) ?_
  refine vP (O.loadR rfl rfl (by exact s0r (by omega) (by omega))) ?_
  refine vP xn ?_
  refine zE ?_
  refine wz ?_
  refine FA.opG rfl rfl rfl rfl (fun hp=>wP 71 rfl (by exact hp) zl) ?_
  refine FA.opG rfl rfl rfl rfl (fun hp=>wP 72 rfl (by exact hp) vK) ?_
  refine wz ?_
  refine FA.opG rfl rfl rfl rfl (fun hp=>xz 74 rfl (by exact hp)) ?_
  refine FA.opG rfl rfl rfl rfl (fun hp=>zf) ?_
  refine FA.opG rfl rfl rfl rfl (fun hp=>wP 75 rfl (by exact hp) (wP 76 rfl (by exact hp) yd)) ?_
  refine FA.opG rfl rfl rfl rfl (fun hp=>wP 77 rfl (by exact hp) (O.fieldAddrR rfl rfl)) ?_
  refine FA.opG rfl rfl rfl rfl (fun hp=>wP 78 rfl (by exact hp) (O.loadR rfl rfl (by exact v0p (by omega) (by omega)))) ?_
  refine FA.opG rfl rfl rfl rfl (fun hp=>wP 79 rfl (by exact hp) vK) ?_
  refine FA.opG rfl rfl rfl rfl (fun hp=>wP 73 rfl (by exact hp) (wP 80 rfl (by exact hp) (O.neqS rfl rfl rfl (by rfl)))) ?_
  refine vP zL ?_
  refine vf ?_
  simp only[a0g,cN,cA,cP]
  refine zH (zn ?_)
  refine ym (fun h6=> ?_) (fun h6=> ?_)<;>(try simp only[vU]at h6)
  ·have e:decide (a=b)=false:=decide_eq_false fun e=>by subst e;simp at h6
   refine zC (zq ?_)
   refine zc (zH (zn (y3 ?_)))
   refine wg (xh ?_)
   refine AQ.loopR ?_
   refine wg (xh ?_)
   refine vm rfl rfl nS (⟨congrArg (fun z=>AV.val (.bool z)) e.symm,rfl⟩)
  have ha2: ∀i,i<k+1→oat a.opts i=oat b.opts i:=by
   intro i hi
   rcases Nat.lt_or_ge i k with h7|h7
   ·exact ha i h7
   obtain rfl:i=k:=by omega
   exact r0X h6.1 h6.2
  refine yU (xA (zn (zq ?_)))
  refine zx ?_
  refine zb (zH ?_)
  refine zJ _ _ _ (by omega) (⟨k+1,by omega,ha2,rfl,rfl,rfl⟩)
 have e:decide (a=b)=true:=decide_eq_true (by
  have:=r0W hl fun i hi=>ha i (by omega)
  obtain⟨⟨⟨⟨⟨e1,e2⟩,e3⟩,e4⟩,e5⟩, -⟩:=h
  obtain⟨_,_,_,_,_,_⟩:=a
  obtain⟨_,_,_,_,_,_⟩:=b
  simp_all)
 refine wm ?_
 refine xY ?_
 refine wa ?_
 refine xq (zn (zC (zq ?_)))
 refine zc (zH (zn (y3 ?_)))
 refine vm rfl rfl nS (⟨congrArg (fun z=>AV.val (.bool z)) e.symm,rfl⟩)
abbrev h0O (r:Msg×Int):AV:= .tup [b0n r.1,.val (.int .i64 r.2)]
theorem m0v {q:AV}{r:Msg×Int}{c:Msg}{e:Int}(h:r=(c,e))(hq:q= .tup [b0n c,.val (.int .i64 e)]):Is (h0O r) q []:=by subst h;exact⟨hq,rfl⟩
end Go.Proofs.YtojomcdjcpmnkaaGreat.By
namespace Go.Proofs.YtojomcdjcpmnkaaGreat.By
open Go.RowKit L A
open Classical in
noncomputable def b0W (b:List UInt8):Msg×Int:=
 if 4096<b.length then(Msg.none,8)else if b.length<4 then(Msg.none,2)else if h: ∃m,OkM m∧raw m=b then(Classical.choose h,0)else(Msg.none,4)
theorem f0M {b:List UInt8}(h1:b.length≤4096)(h2:4≤b.length)(h: ∀m,OkM m→raw m≠b):b0W b=(Msg.none,4):=by
 unfold b0W
 rw[if_neg (by omega),if_neg (by omega),dif_neg fun⟨m,h3,h4⟩=>h m h3 h4]
theorem k0v {b:List UInt8}{m:Msg}(h1:b.length≤4096)(h2:4≤b.length)(hm:OkM m)(hr:raw m=b)(h: ∀m0,OkM m0→raw m0=b→m0=m):b0W b=(m,0):=by
 unfold b0W
 have hx: ∃m,OkM m∧raw m=b:=⟨m,hm,hr⟩
 rw[if_neg (by omega),if_neg (by omega),dif_pos hx,h _ (Classical.choose_spec hx).1 (Classical.choose_spec hx).2]
def a0V (r:List UInt8)(bad:Bool)(n:Int):List UInt8×List UInt8×Bool:=if(r.length:Int)<n then(List.replicate (min n 4).toNat 0,r,true)else(r.take n.toNat,r.drop n.toNat,bad)
def f0v (r:List UInt8)(bad:Bool)(n:Int):Int×List UInt8×Bool:=
 if n=13 then(((bt (a0V r bad 1).1 0).toNat:Int)+13,(a0V r bad 1).2)
 else if n=14 then(((bt (a0V r bad 2).1 0).toNat:Int)*256+((bt (a0V r bad 2).1 1).toNat:Int)+269,(a0V r bad 2).2)
 else(n,r,if n=15 then true else bad)
theorem c0j (v t:List UInt8)(bad:Bool){n:Int}(h:n=v.length):a0V (v++t) bad n=(v,t,bad):=by
 subst h
 unfold a0V
 rw[if_neg (by simp;omega)]
 simp
theorem c0i (r:List UInt8)(bad:Bool)(n:Int)(h:0≤n):(a0V r bad n).2.1.length≤r.length∧((a0V r bad n).1.length:Int)≤n∧(n≤4→((a0V r bad n).1.length:Int)=n):=by
 unfold a0V
 split<;>simp<;>omega
theorem e0U {x:Int}(h:0≤x∧x≤65804)(t:List UInt8)(bad:Bool):f0v ((ext x).2++t) bad (ext x).1=(x,t,bad):=by
 unfold ext
 split
 ·unfold f0v;rw[if_neg (by simp;omega),if_neg (by simp;omega),if_neg (by simp;omega)];rfl
 split
 ·unfold f0v
  rw[if_pos rfl,c0j [u8 (x-13)] t bad (n:=1) rfl]
  have:=a0I (x:=x-13) (by omega)
  simp[bt]at this⊢
  omega
 unfold f0v
 rw[if_neg (by simp),if_pos rfl,c0j [u8 ((x-269)/256),u8 (x-269)] t bad (n:=2) rfl]
 have h1:=a0I (x:=(x-269)/256) (by omega)
 have h2:=c0c (x-269)
 simp[bt]at h1 h2⊢
 omega
theorem n0f (r:List UInt8)(bad:Bool){n:Int}(h:0≤n∧n≤15):0≤(f0v r bad n).1∧(f0v r bad n).1≤65804∧(f0v r bad n).2.1.length≤r.length:=by
 have h1:=c0i r bad 1 (by omega)
 have h2:=c0i r bad 2 (by omega)
 unfold f0v
 split
 ·have:=b0t (bt (a0V r bad 1).1 0)
  refine⟨?_,?_,h1.1⟩<;>simp only<;>omega
 split
 ·have:=b0t (bt (a0V r bad 2).1 0)
  have:=b0t (bt (a0V r bad 2).1 1)
  refine⟨?_,?_,h2.1⟩<;>simp only<;>omega
 refine⟨?_,?_,Nat.le_refl _⟩<;>simp only<;>omega
def k0M (m:Msg):List UInt8:=if m.pay= []then []else 255::m.pay
def c0u (m:Msg)(k:Nat):List UInt8:=g0y (a0N 0 (m.opts.take k)) (m.opts.drop k)++k0M m
theorem m0w (m:Msg):raw m=f0y m++(m.tok++c0u m 0):=by simp[raw,c0u,k0M,a0N]
theorem j0X {m:Msg}{k:Nat}(h:m.opts.length≤k):c0u m k=k0M m:=by simp[c0u,List.drop_eq_nil_of_le h,g0y]
theorem f0p {m:Msg}{k:Nat}(h:k<m.opts.length):c0u m k=u8 (16*(ext ((oat m.opts k).num-a0N 0 (m.opts.take k))).1+(ext ((oat m.opts k).val.length:Int)).1)::((ext ((oat m.opts k).num-a0N 0 (m.opts.take k))).2++((ext ((oat m.opts k).val.length:Int)).2++((oat m.opts k).val++c0u m (k+1)))):=by
 rw[c0u,i0s Opt.none h,g0y,hdr,c0u,a0i Opt.none h,b0i]
 simp
def Fits (b:List UInt8)(opts:List Opt)(last:Int)(r:List UInt8)(bad:Bool):Prop:=
 ∀m,OkM m→raw m=b→bad=false∧opts.length≤m.opts.length∧r=c0u m opts.length∧last=a0N 0 opts∧opts=m.opts.take opts.length
theorem Fits.more {b:List UInt8}{opts:List Opt}{last:Int}{r:List UInt8}{bad:Bool}(h:Fits b opts last r bad){m:Msg}(hm:OkM m)(hr:raw m=b)(h1:r≠ [])(h2:bt r 0≠255):opts.length<m.opts.length:=by
 obtain⟨-,h3,h4, -, -⟩:=h m hm hr
 rcases Nat.lt_or_ge opts.length m.opts.length with h5|h5
 ·exact h5
 rw[j0X h5,k0M]at h4
 split at h4
 ·exact absurd h4 h1
 subst h4;exact absurd rfl h2
theorem Fits.ends {b:List UInt8}{opts:List Opt}{last:Int}{r:List UInt8}{bad:Bool}(h:Fits b opts last r bad){m:Msg}(hm:OkM m)(hr:raw m=b)(h1:bad=true∨r= []∨bt r 0=255):bad=false∧opts=m.opts∧r=k0M m:=by
 obtain⟨h0,h3,h4,h6,h7⟩:=h m hm hr
 rcases Nat.lt_or_ge opts.length m.opts.length with h5|h5
 ·rw[f0p h5]at h4
  have h8:=c0W hm.2.2.1 h5
  have h9:=d0N (b0X hm.2.2.1 opts.length) (by omega)
  have e1:=c0d ((oat m.opts opts.length).num-a0N 0 (m.opts.take opts.length)) (by omega)
  have e2:=c0d ((oat m.opts opts.length).val.length:Int) (by omega)
  rcases h1 with h1|h1|h1
  ·rw[h0]at h1;cases h1
  ·rw[h1]at h4;cases h4
  have e3:=a0I (x:=16*(ext ((oat m.opts opts.length).num-a0N 0 (m.opts.take opts.length))).1+(ext ((oat m.opts opts.length).val.length:Int)).1) (by omega)
  rw[h4]at h1
  have h1':u8 (16*(ext ((oat m.opts opts.length).num-a0N 0 (m.opts.take opts.length))).1+(ext ((oat m.opts opts.length).val.length:Int)).1)=255:=h1
  rw[h1']at e3
  have:((255:UInt8).toNat:Int)=255:=rfl
  omega
 refine⟨h0,?_,?_⟩
 ·rw[List.take_of_length_le h5]at h7;exact h7
 rw[j0X h5]at h4;exact h4
theorem Fits.parts {b:List UInt8}{opts:List Opt}{last:Int}{r:List UInt8}{bad:Bool}(h:Fits b opts last r bad){m:Msg}(hm:OkM m)(hr:raw m=b)(h1:r≠ [])(h2:bt r 0≠255):
  ∃o d n,opts.length<m.opts.length∧o=oat m.opts opts.length∧d=o.num-last∧n=(o.val.length:Int)∧0≤d∧d≤65535∧n≤1034∧((bt r 0).toNat:Int)=16*(ext d).1+(ext n).1∧r.drop 1=(ext d).2++((ext n).2++(o.val++c0u m (opts.length+1))):=by
 have h5:=h.more hm hr h1 h2
 obtain⟨h0,h3,h4,h6,h7⟩:=h m hm hr
 rw[f0p h5,←h7,←h6]at h4
 have h8:=c0W hm.2.2.1 h5
 have h9:=d0N (b0X hm.2.2.1 opts.length) (by omega)
 rw[←h7,←h6]at h8 h9
 have e1:=c0d ((oat m.opts opts.length).num-last) (by omega)
 have e2:=c0d ((oat m.opts opts.length).val.length:Int) (by omega)
 refine⟨_,_,_,h5,rfl,rfl,rfl,by omega,by omega,by omega,?_,by rw[h4];rfl⟩
 rw[h4]
 exact a0I (by omega)
theorem Fits.step {b:List UInt8}{opts:List Opt}{last:Int}{r r1 r2 r3:List UInt8}{b1 b2 b3:Bool}{v1 v2:Int}{x:List UInt8}(h:Fits b opts last r false)(h1:r≠ [])(h2:bt r 0≠255)
  (e1:f0v (r.drop 1) false (((bt r 0).toNat:Int)/16)=(v1,r1,b1)) (e2:f0v r1 b1 (((bt r 0).toNat:Int)%16)=(v2,r2,b2)) (e3:a0V r2 b2 v2=(x,r3,b3)):Fits b (opts++[⟨last+v1,x⟩]) (last+v1) r3 b3:=fun m hm hr=>by
 obtain⟨o,d,n,h5,h6,h7,h8,h9,h10,h11,h12,h13⟩:=h.parts hm hr h1 h2
 obtain⟨-, -, -,h16,h17⟩:=h m hm hr
 have q1:=c0d d h9
 have q2:=c0d n (by omega)
 rw[h12,show(16*(ext d).1+(ext n).1)/16=(ext d).1 by omega,h13,e0U (by omega)]at e1
 simp only[Prod.mk.injEq]at e1
 obtain⟨e11,e12,e13⟩:=e1
 subst e12;subst e13
 rw[h12,show(16*(ext d).1+(ext n).1)%16=(ext n).1 by omega,e0U (by omega)]at e2
 simp only[Prod.mk.injEq]at e2
 obtain⟨e21,e22,e23⟩:=e2
 subst e22;subst e23
 rw[c0j _ _ _ (e21.symm.trans h8)]at e3
 simp only[Prod.mk.injEq]at e3
 obtain⟨e31,e32,e33⟩:=e3
 subst e31;subst e32;subst e33
 have hl:last+v1=o.num:=by omega
 refine⟨rfl,by simp;omega,by simp,by rw[b0i],?_⟩
 rw[cH,List.length_singleton,a0i Opt.none h5,←h17,hl,h6]
theorem Fits.start {b:List UInt8}:(∀m,OkM m→raw m=b→((bt b 0).toNat:Int)=64+16*m.ty+m.tok.length∧((bt b 1).toNat:Int)=m.code∧((bt b 2).toNat:Int)=m.id/256∧((bt b 3).toNat:Int)=m.id%256∧b.drop 4=m.tok++c0u m 0):=fun m hm hr=>by
 have h1:=hm.1
 have h2:=hm.2.1
 subst hr
 rw[m0w]
 refine⟨a0I (by omega),a0I (by omega),a0I (by omega),c0c _,rfl⟩
theorem Fits.first {b x r:List UInt8}{bad:Bool}(e:a0V (b.drop 4) false (((bt b 0).toNat:Int)%16)=(x,r,bad)):Fits b [] 0 r bad∧ ∀m,OkM m→raw m=b→x=m.tok:=by
 have key: ∀m,OkM m→raw m=b→x=m.tok∧r=c0u m 0∧bad=false:=fun m hm hr=>by
  obtain⟨h1, -, -, -,h5⟩:=Fits.start m hm hr
  have h2:=hm.2.1
  rw[h1,h5,c0j _ _ _ (by omega)]at e
  cases e
  exact⟨rfl,rfl,rfl⟩
 exact⟨fun m hm hr=>⟨(key m hm hr).2.2,Nat.zero_le _,(key m hm hr).2.1,rfl,rfl⟩,fun m hm hr=>(key m hm hr).1⟩
theorem Fits.all {b x r:List UInt8}{opts:List Opt}{last:Int}{bad:Bool}(h:Fits b opts last r bad)(hx: ∀m,OkM m→raw m=b→x=m.tok)(h1:bad=true∨r= []∨bt r 0=255){pay:List UInt8}(hp:pay=r.drop 1){ty code id:Int}
  (hty:ty=((bt b 0).toNat:Int)/16%4) (hcode:code=((bt b 1).toNat:Int)) (hid:id=((bt b 2).toNat:Int)*256+((bt b 3).toNat:Int)): ∀m,OkM m→raw m=b→bad=false∧m=⟨ty,code,id,x,opts,pay⟩:=fun m hm hr=>by
 obtain⟨g1,g2,g3,g4, -⟩:=Fits.start m hm hr
 obtain⟨h3,h4,h5⟩:=h.ends hm hr h1
 have q1:=hm.1
 have q2:=hm.2.1
 have hpay:pay=m.pay:=by
  rw[hp,h5,k0M]
  split
  ·rename_i e;rw[e];rfl
  rfl
 refine⟨h3,?_⟩
 obtain⟨ty',code',id',tok',opts',pay'⟩:=m
 simp only at g1 g2 g3 g4 q1 q2 h4 hpay
 have:=hx _ hm hr
 simp only at this
 subst this;subst h4;subst hpay
 rw[Msg.mk.injEq]
 refine⟨by omega,by omega,by omega,rfl,rfl,rfl⟩
theorem Fits.own {m:Msg}(hm:OkM m): ∀k,k≤m.opts.length→Fits (raw m) (m.opts.take k) (a0N 0 (m.opts.take k)) (c0u m k) false
 | 0,_=>by
  have h1:=hm.1
  have h2:=hm.2.1
  have e0:((bt (raw m) 0).toNat:Int)=64+16*m.ty+m.tok.length:=(Fits.start m hm rfl).1
  have e:a0V ((raw m).drop 4) false (((bt (raw m) 0).toNat:Int)%16)=(m.tok,c0u m 0,false):=by
   rw[(Fits.start m hm rfl).2.2.2.2,c0j _ _ _ (by omega)]
  exact(Fits.first e).1
 | k+1,h=>by
  have ih:=Fits.own hm k (by omega)
  have h5:k<m.opts.length:=by omega
  have h8:=c0W hm.2.2.1 h5
  have h9:=d0N (b0X hm.2.2.1 k) (by omega)
  have hr:=f0p (m:=m) h5
  generalize hd:(oat m.opts k).num-a0N 0 (m.opts.take k)=d at hr
  generalize hn:((oat m.opts k).val.length:Int)=n at hr
  have e1:=c0d d (by omega)
  have e2:=c0d n (by omega)
  have hb:bt (c0u m k) 0=u8 (16*(ext d).1+(ext n).1):=by rw[hr];rfl
  have hu:=a0I (x:=16*(ext d).1+(ext n).1) (by omega)
  have s:=ih.step (v1:=d) (r1:=(ext n).2++((oat m.opts k).val++c0u m (k+1))) (b1:=false) (v2:=n) (r2:=(oat m.opts k).val++c0u m (k+1)) (b2:=false) (x:=(oat m.opts k).val) (r3:=c0u m (k+1)) (b3:=false)
   (by rw[hr];simp) (fun e=>by
    rw[hb]at e
    rw[e]at hu
    have:((255:UInt8).toNat:Int)=255:=rfl
    omega)
   (by rw[hb,hu,show(16*(ext d).1+(ext n).1)/16=(ext d).1 by omega,hr];exact e0U (by omega) _ _)
   (by rw[hb,hu,show(16*(ext d).1+(ext n).1)%16=(ext n).1 by omega];exact e0U (by omega) _ _)
   (c0j _ _ _ hn.symm)
  rw[show a0N 0 (m.opts.take k)+d=(oat m.opts k).num by omega]at s
  rw[a0i Opt.none h5,b0i]
  exact s
theorem n0H {b:List UInt8}(h:(b0W b).2=0):ValM (b0W b).1∧raw (b0W b).1=b:=by
 unfold b0W at h⊢
 split at h
 ·cases h
 split at h
 ·cases h
 split at h
 ·rename_i h1 h2 h3
  rw[if_neg h1,if_neg h2,dif_pos h3]
  have:=Classical.choose_spec h3
  exact⟨⟨this.1,by rw[this.2];omega⟩,this.2⟩
 cases h
attribute [local irreducible] AW AQ AO
def cls (n:Int):Int:=
 if n=3∨n=7∨n=9∨n=16∨n=35∨n=39 then 2
 else if n=6∨n=14∨n=23∨n=27∨n=28∨n=60∨n=252∨n=258∨n=292 then 3 else 1
theorem k0y (n:Int):Sp Tryz.prog 154 [.val (.int .i64 n)] [] (Is (.val (.int .i64 (cls n)))):=by
 refine yH Tryz.func154 _ Tryz.ntmps154 (fun w0 R0=> ?_)
 refine zC (zq ?_)
 refine zc (zH (zn (zC (zC (zq ?_)))))
 refine zb (zH (zn (xb (zC (zC (zq ?_))))))
 refine yi ?_
 refine zc (zH (zn ?_))
 refine wc [(3,_)] (fun E H=> ∃(c40:Bool),(c40=decide (n=3∨n=7∨n=9∨n=16∨n=35∨n=39))∧E= [(4,.val (.bool c40))]∧H= []) (fun h40=> ?_) (fun h40=> ?_) ?_<;>try(try simp only[vU]at h40)
 ·refine yU ?_
  refine yx _ _ (⟨n==3,by simp[h40],rfl,rfl⟩)
 ·refine zC (zq ?_)
  refine yi ?_
  refine zc (zH (zn ?_))
  refine wc [(3,_)] (fun E H=> ∃(c41:Bool),(c41=decide (n=7∨n=9∨n=16∨n=35∨n=39))∧E= [(4,.val (.bool c41))]∧H= []) (fun h41=> ?_) (fun h41=> ?_) ?_<;>try(try simp only[vU]at h41)
  ·refine yU ?_
   refine yx _ _ (⟨n==7,by simp[h41],rfl,rfl⟩)
  ·refine zC (zq ?_)
   refine yi ?_
   refine zc (zH (zn ?_))
   refine wc [(3,_)] (fun E H=> ∃(c42:Bool),(c42=decide (n=9∨n=16∨n=35∨n=39))∧E= [(4,.val (.bool c42))]∧H= []) (fun h42=> ?_) (fun h42=> ?_) ?_<;>try(try simp only[vU]at h42)
   ·refine yU ?_
    refine yx _ _ (⟨n==9,by simp[h42],rfl,rfl⟩)
   ·refine zC (zq ?_)
    refine yi ?_
    refine zc (zH (zn ?_))
    refine wc [(3,_)] (fun E H=> ∃(c43:Bool),(c43=decide (n=16∨n=35∨n=39))∧E= [(4,.val (.bool c43))]∧H= []) (fun h43=> ?_) (fun h43=> ?_) ?_<;>try(try simp only[vU]at h43)
    ·refine yU ?_
     refine yx _ _ (⟨n==16,by simp[h43],rfl,rfl⟩)
    ·refine zC (zq ?_)
     refine yi ?_
     refine zc (zH (zn ?_))
     refine wc [(3,_)] (fun E H=> ∃(c44:Bool),(c44=decide (n=35∨n=39))∧E= [(4,.val (.bool c44))]∧H= []) (fun h44=> ?_) (fun h44=> ?_) ?_<;>try(try simp only[vU]at h44)
     ·refine yU ?_
      refine yx _ _ (⟨n==35,by simp[h44],rfl,rfl⟩)
     ·refine zq ?_
      refine yi ?_
      refine zc (zH ?_)
      refine yx _ _ (⟨n==39,by rw[Bool.eq_iff_iff];simp[h44],rfl,rfl⟩)
     rintro E1 H1 ⟨c44,hc44,rfl,rfl⟩
     dsimp only[cA,cN]
     refine yx _ _ (⟨c44,by rw[hc44];simp only[h43,false_or],rfl,rfl⟩)
    rintro E1 H1 ⟨c43,hc43,rfl,rfl⟩
    dsimp only[cA,cN]
    refine yx _ _ (⟨c43,by rw[hc43];simp only[h42,false_or],rfl,rfl⟩)
   rintro E1 H1 ⟨c42,hc42,rfl,rfl⟩
   dsimp only[cA,cN]
   refine yx _ _ (⟨c42,by rw[hc42];simp only[h41,false_or],rfl,rfl⟩)
  rintro E1 H1 ⟨c41,hc41,rfl,rfl⟩
  dsimp only[cA,cN]
  refine yx _ _ (⟨c41,by rw[hc41];simp only[h40,false_or],rfl,rfl⟩)
 rintro E1 H1 ⟨c40,hc40,rfl,rfl⟩
 dsimp only[cA,cN]
 refine zn ?_
 refine ym (fun ha=> ?_) (fun ha=> ?_)<;>(try simp only[vU]at ha)
 ·rw[hc40]at ha
  have e:cls n=2:=if_pos (by simpa using ha)
  refine zC (zq ?_)
  refine zc (zH (zn (y3 ?_)))
  refine wg (xh ?_)
  refine vm rfl rfl nS (⟨by rw[e];rfl,rfl⟩)
 rw[hc40]at ha
 refine zC (zC (zq ?_))
 refine yi ?_
 refine zc (zH (zn ?_))
 refine vj [] (fun E H=> ∃(c110:Bool),(c110=decide (n=6∨n=14∨n=23∨n=27∨n=28∨n=60∨n=252∨n=258∨n=292))∧E= [(11,.val (.bool c110))]∧H= []) (fun h110=> ?_) (fun h110=> ?_) ?_<;>try(try simp only[vU]at h110)
 ·refine yU ?_
  refine ye _ _ (⟨n==6,by simp[h110],rfl,rfl⟩)
 ·refine zC (zq ?_)
  refine yi ?_
  refine zc (zH (zn ?_))
  refine vj [] (fun E H=> ∃(c111:Bool),(c111=decide (n=14∨n=23∨n=27∨n=28∨n=60∨n=252∨n=258∨n=292))∧E= [(11,.val (.bool c111))]∧H= []) (fun h111=> ?_) (fun h111=> ?_) ?_<;>try(try simp only[vU]at h111)
  ·refine yU ?_
   refine ye _ _ (⟨n==14,by simp[h111],rfl,rfl⟩)
  ·refine zC (zq ?_)
   refine yi ?_
   refine zc (zH (zn ?_))
   refine vj [] (fun E H=> ∃(c112:Bool),(c112=decide (n=23∨n=27∨n=28∨n=60∨n=252∨n=258∨n=292))∧E= [(11,.val (.bool c112))]∧H= []) (fun h112=> ?_) (fun h112=> ?_) ?_<;>try(try simp only[vU]at h112)
   ·refine yU ?_
    refine ye _ _ (⟨n==23,by simp[h112],rfl,rfl⟩)
   ·refine zC (zq ?_)
    refine yi ?_
    refine zc (zH (zn ?_))
    refine vj [] (fun E H=> ∃(c113:Bool),(c113=decide (n=27∨n=28∨n=60∨n=252∨n=258∨n=292))∧E= [(11,.val (.bool c113))]∧H= []) (fun h113=> ?_) (fun h113=> ?_) ?_<;>try(try simp only[vU]at h113)
    ·refine yU ?_
     refine ye _ _ (⟨n==27,by simp[h113],rfl,rfl⟩)
    ·refine zC (zq ?_)
     refine yi ?_
     refine zc (zH (zn ?_))
     refine vj [] (fun E H=> ∃(c114:Bool),(c114=decide (n=28∨n=60∨n=252∨n=258∨n=292))∧E= [(11,.val (.bool c114))]∧H= []) (fun h114=> ?_) (fun h114=> ?_) ?_<;>try(try simp only[vU]at h114)
     ·refine yU ?_
      refine ye _ _ (⟨n==28,by simp[h114],rfl,rfl⟩)
     ·refine zC (zq ?_)
      refine yi ?_
      refine zc (zH (zn ?_))
      refine vj [] (fun E H=> ∃(c115:Bool),(c115=decide (n=60∨n=252∨n=258∨n=292))∧E= [(11,.val (.bool c115))]∧H= []) (fun h115=> ?_) (fun h115=> ?_) ?_<;>try(try simp only[vU]at h115)
      ·refine yU ?_
       refine ye _ _ (⟨n==60,by simp[h115],rfl,rfl⟩)
      ·refine zC (zq ?_)
       refine yi ?_
       refine zc (zH (zn ?_))
       refine vj [] (fun E H=> ∃(c116:Bool),(c116=decide (n=252∨n=258∨n=292))∧E= [(11,.val (.bool c116))]∧H= []) (fun h116=> ?_) (fun h116=> ?_) ?_<;>try(try simp only[vU]at h116)
       ·refine yU ?_
        refine ye _ _ (⟨n==252,by simp[h116],rfl,rfl⟩)
       ·refine zC (zq ?_)
        refine yi ?_
        refine zc (zH (zn ?_))
        refine vj [] (fun E H=> ∃(c117:Bool),(c117=decide (n=258∨n=292))∧E= [(11,.val (.bool c117))]∧H= []) (fun h117=> ?_) (fun h117=> ?_) ?_<;>try(try simp only[vU]at h117)
        ·refine yU ?_
         refine ye _ _ (⟨n==258,by simp[h117],rfl,rfl⟩)
        ·refine zq ?_
         refine yi ?_
         refine zc (zH ?_)
         refine ye _ _ (⟨n==292,by rw[Bool.eq_iff_iff];simp[h117],rfl,rfl⟩)
        rintro E1 H1 ⟨c117,hc117,rfl,rfl⟩
        dsimp only[cA,cN]
        refine ye _ _ (⟨c117,by rw[hc117];simp only[h116,false_or],rfl,rfl⟩)
       rintro E1 H1 ⟨c116,hc116,rfl,rfl⟩
       dsimp only[cA,cN]
       refine ye _ _ (⟨c116,by rw[hc116];simp only[h115,false_or],rfl,rfl⟩)
      rintro E1 H1 ⟨c115,hc115,rfl,rfl⟩
      dsimp only[cA,cN]
      refine ye _ _ (⟨c115,by rw[hc115];simp only[h114,false_or],rfl,rfl⟩)
     rintro E1 H1 ⟨c114,hc114,rfl,rfl⟩
     dsimp only[cA,cN]
     refine ye _ _ (⟨c114,by rw[hc114];simp only[h113,false_or],rfl,rfl⟩)
    rintro E1 H1 ⟨c113,hc113,rfl,rfl⟩
    dsimp only[cA,cN]
    refine ye _ _ (⟨c113,by rw[hc113];simp only[h112,false_or],rfl,rfl⟩)
   rintro E1 H1 ⟨c112,hc112,rfl,rfl⟩
   dsimp only[cA,cN]
   refine ye _ _ (⟨c112,by rw[hc112];simp only[h111,false_or],rfl,rfl⟩)
  rintro E1 H1 ⟨c111,hc111,rfl,rfl⟩
  dsimp only[cA,cN]
  refine ye _ _ (⟨c111,by rw[hc111];simp only[h110,false_or],rfl,rfl⟩)
 rintro E1 H1 ⟨c110,hc110,rfl,rfl⟩
 dsimp only[cA,cN]
 refine zn ?_
 refine ym (fun hb=> ?_) (fun hb=> ?_)<;>(try simp only[vU]at hb)
 ·rw[hc110]at hb
  have e:cls n=3:=(if_neg (by simpa using ha)).trans (if_pos (by simpa using hb))
  refine zC (zq ?_)
  refine zc (zH (zn (y3 ?_)))
  refine wg (xh ?_)
  refine vm rfl rfl nS (⟨by rw[e];rfl,rfl⟩)
 rw[hc110]at hb
 have e:cls n=1:=(if_neg (by simpa using ha)).trans (if_neg (by simpa using hb))
 refine yU (xA (zn (zC (zq ?_))))
 refine zc (zH (zn (y3 ?_)))
 refine vm rfl rfl nS (⟨by rw[e];rfl,rfl⟩)
theorem f0q (n:Int):Sp Tryz.prog 121 [.val (.int .i64 n)] [] (Is (.val (.int .i64 (cls n)))):=by
 refine yH Tryz.func121 _ Tryz.ntmps121 (fun w0 R0=> ?_)
 refine zC (zq ?_)
 refine zc (zH (zn (zC (zC (zq ?_)))))
 refine zb (zH (zn (xb (zC (zC (zq ?_))))))
 refine yi ?_
 refine zc (zH (zn ?_))
 refine wc [(3,_)] (fun E H=> ∃(c40:Bool),(c40=decide (n=3∨n=7∨n=9∨n=16∨n=35∨n=39))∧E= [(4,.val (.bool c40))]∧H= []) (fun h40=> ?_) (fun h40=> ?_) ?_<;>try(try simp only[vU]at h40)
 ·refine yU ?_
  refine yx _ _ (⟨n==3,by simp[h40],rfl,rfl⟩)
 ·refine zC (zq ?_)
  refine yi ?_
  refine zc (zH (zn ?_))
  refine wc [(3,_)] (fun E H=> ∃(c41:Bool),(c41=decide (n=7∨n=9∨n=16∨n=35∨n=39))∧E= [(4,.val (.bool c41))]∧H= []) (fun h41=> ?_) (fun h41=> ?_) ?_<;>try(try simp only[vU]at h41)
  ·refine yU ?_
   refine yx _ _ (⟨n==7,by simp[h41],rfl,rfl⟩)
  ·refine zC (zq ?_)
   refine yi ?_
   refine zc (zH (zn ?_))
   refine wc [(3,_)] (fun E H=> ∃(c42:Bool),(c42=decide (n=9∨n=16∨n=35∨n=39))∧E= [(4,.val (.bool c42))]∧H= []) (fun h42=> ?_) (fun h42=> ?_) ?_<;>try(try simp only[vU]at h42)
   ·refine yU ?_
    refine yx _ _ (⟨n==9,by simp[h42],rfl,rfl⟩)
   ·refine zC (zq ?_)
    refine yi ?_
    refine zc (zH (zn ?_))
    refine wc [(3,_)] (fun E H=> ∃(c43:Bool),(c43=decide (n=16∨n=35∨n=39))∧E= [(4,.val (.bool c43))]∧H= []) (fun h43=> ?_) (fun h43=> ?_) ?_<;>try(try simp only[vU]at h43)
    ·refine yU ?_
     refine yx _ _ (⟨n==16,by simp[h43],rfl,rfl⟩)
    ·refine zC (zq ?_)
     refine yi ?_
     refine zc (zH (zn ?_))
     refine wc [(3,_)] (fun E H=> ∃(c44:Bool),(c44=decide (n=35∨n=39))∧E= [(4,.val (.bool c44))]∧H= []) (fun h44=> ?_) (fun h44=> ?_) ?_<;>try(try simp only[vU]at h44)
     ·refine yU ?_
      refine yx _ _ (⟨n==35,by simp[h44],rfl,rfl⟩)
     ·refine zq ?_
      refine yi ?_
      refine zc (zH ?_)
      refine yx _ _ (⟨n==39,by rw[Bool.eq_iff_iff];simp[h44],rfl,rfl⟩)
     rintro E1 H1 ⟨c44,hc44,rfl,rfl⟩
     dsimp only[cA,cN]
     refine yx _ _ (⟨c44,by rw[hc44];simp only[h43,false_or],rfl,rfl⟩)
    rintro E1 H1 ⟨c43,hc43,rfl,rfl⟩
    dsimp only[cA,cN]
    refine yx _ _ (⟨c43,by rw[hc43];simp only[h42,false_or],rfl,rfl⟩)
   rintro E1 H1 ⟨c42,hc42,rfl,rfl⟩
   dsimp only[cA,cN]
   refine yx _ _ (⟨c42,by rw[hc42];simp only[h41,false_or],rfl,rfl⟩)
  rintro E1 H1 ⟨c41,hc41,rfl,rfl⟩
  dsimp only[cA,cN]
  refine yx _ _ (⟨c41,by rw[hc41];simp only[h40,false_or],rfl,rfl⟩)
 rintro E1 H1 ⟨c40,hc40,rfl,rfl⟩
 dsimp only[cA,cN]
 refine zn ?_
 refine ym (fun ha=> ?_) (fun ha=> ?_)<;>(try simp only[vU]at ha)
 ·rw[hc40]at ha
  have e:cls n=2:=if_pos (by simpa using ha)
  refine zC (zq ?_)
  refine zc (zH (zn (y3 ?_)))
  refine wg (xh ?_)
  refine vm rfl rfl nS (⟨by rw[e];rfl,rfl⟩)
 rw[hc40]at ha
 refine zC (zC (zq ?_))
 refine yi ?_
 refine zc (zH (zn ?_))
 refine vj [] (fun E H=> ∃(c110:Bool),(c110=decide (n=6∨n=14∨n=23∨n=27∨n=28∨n=60∨n=252∨n=258∨n=292))∧E= [(11,.val (.bool c110))]∧H= []) (fun h110=> ?_) (fun h110=> ?_) ?_<;>try(try simp only[vU]at h110)
 ·refine yU ?_
  refine ye _ _ (⟨n==6,by simp[h110],rfl,rfl⟩)
 ·refine zC (zq ?_)
  refine yi ?_
  refine zc (zH (zn ?_))
  refine vj [] (fun E H=> ∃(c111:Bool),(c111=decide (n=14∨n=23∨n=27∨n=28∨n=60∨n=252∨n=258∨n=292))∧E= [(11,.val (.bool c111))]∧H= []) (fun h111=> ?_) (fun h111=> ?_) ?_<;>try(try simp only[vU]at h111)
  ·refine yU ?_
   refine ye _ _ (⟨n==14,by simp[h111],rfl,rfl⟩)
  ·refine zC (zq ?_)
   refine yi ?_
   refine zc (zH (zn ?_))
   refine vj [] (fun E H=> ∃(c112:Bool),(c112=decide (n=23∨n=27∨n=28∨n=60∨n=252∨n=258∨n=292))∧E= [(11,.val (.bool c112))]∧H= []) (fun h112=> ?_) (fun h112=> ?_) ?_<;>try(try simp only[vU]at h112)
   ·refine yU ?_
    refine ye _ _ (⟨n==23,by simp[h112],rfl,rfl⟩)
   ·refine zC (zq ?_)
    refine yi ?_
    refine zc (zH (zn ?_))
    refine vj [] (fun E H=> ∃(c113:Bool),(c113=decide (n=27∨n=28∨n=60∨n=252∨n=258∨n=292))∧E= [(11,.val (.bool c113))]∧H= []) (fun h113=> ?_) (fun h113=> ?_) ?_<;>try(try simp only[vU]at h113)
    ·refine yU ?_
     refine ye _ _ (⟨n==27,by simp[h113],rfl,rfl⟩)
    ·refine zC (zq ?_)
     refine yi ?_
     refine zc (zH (zn ?_))
     refine vj [] (fun E H=> ∃(c114:Bool),(c114=decide (n=28∨n=60∨n=252∨n=258∨n=292))∧E= [(11,.val (.bool c114))]∧H= []) (fun h114=> ?_) (fun h114=> ?_) ?_<;>try(try simp only[vU]at h114)
     ·refine yU ?_
      refine ye _ _ (⟨n==28,by simp[h114],rfl,rfl⟩)
     ·refine zC (zq ?_)
      refine yi ?_
      refine zc (zH (zn ?_))
      refine vj [] (fun E H=> ∃(c115:Bool),(c115=decide (n=60∨n=252∨n=258∨n=292))∧E= [(11,.val (.bool c115))]∧H= []) (fun h115=> ?_) (fun h115=> ?_) ?_<;>try(try simp only[vU]at h115)
      ·refine yU ?_
       refine ye _ _ (⟨n==60,by simp[h115],rfl,rfl⟩)
      ·refine zC (zq ?_)
       refine yi ?_
       refine zc (zH (zn ?_))
       refine vj [] (fun E H=> ∃(c116:Bool),(c116=decide (n=252∨n=258∨n=292))∧E= [(11,.val (.bool c116))]∧H= []) (fun h116=> ?_) (fun h116=> ?_) ?_<;>try(try simp only[vU]at h116)
       ·refine yU ?_
        refine ye _ _ (⟨n==252,by simp[h116],rfl,rfl⟩)
       ·refine zC (zq ?_)
        refine yi ?_
        refine zc (zH (zn ?_))
        refine vj [] (fun E H=> ∃(c117:Bool),(c117=decide (n=258∨n=292))∧E= [(11,.val (.bool c117))]∧H= []) (fun h117=> ?_) (fun h117=> ?_) ?_<;>try(try simp only[vU]at h117)
        ·refine yU ?_
         refine ye _ _ (⟨n==258,by simp[h117],rfl,rfl⟩)
        ·refine zq ?_
         refine yi ?_
         refine zc (zH ?_)
         refine ye _ _ (⟨n==292,by rw[Bool.eq_iff_iff];simp[h117],rfl,rfl⟩)
        rintro E1 H1 ⟨c117,hc117,rfl,rfl⟩
        dsimp only[cA,cN]
        refine ye _ _ (⟨c117,by rw[hc117];simp only[h116,false_or],rfl,rfl⟩)
       rintro E1 H1 ⟨c116,hc116,rfl,rfl⟩
       dsimp only[cA,cN]
       refine ye _ _ (⟨c116,by rw[hc116];simp only[h115,false_or],rfl,rfl⟩)
      rintro E1 H1 ⟨c115,hc115,rfl,rfl⟩
      dsimp only[cA,cN]
      refine ye _ _ (⟨c115,by rw[hc115];simp only[h114,false_or],rfl,rfl⟩)
     rintro E1 H1 ⟨c114,hc114,rfl,rfl⟩
     dsimp only[cA,cN]
     refine ye _ _ (⟨c114,by rw[hc114];simp only[h113,false_or],rfl,rfl⟩)
    rintro E1 H1 ⟨c113,hc113,rfl,rfl⟩
    dsimp only[cA,cN]
    refine ye _ _ (⟨c113,by rw[hc113];simp only[h112,false_or],rfl,rfl⟩)
   rintro E1 H1 ⟨c112,hc112,rfl,rfl⟩
   dsimp only[cA,cN]
   refine ye _ _ (⟨c112,by rw[hc112];simp only[h111,false_or],rfl,rfl⟩)
  rintro E1 H1 ⟨c111,hc111,rfl,rfl⟩
  dsimp only[cA,cN]
  refine ye _ _ (⟨c111,by rw[hc111];simp only[h110,false_or],rfl,rfl⟩)
 rintro E1 H1 ⟨c110,hc110,rfl,rfl⟩
 dsimp only[cA,cN]
 refine zn ?_
 refine ym (fun hb=> ?_) (fun hb=> ?_)<;>(try simp only[vU]at hb)
 ·rw[hc110]at hb
  have e:cls n=3:=(if_neg (by simpa using ha)).trans (if_pos (by simpa using hb))
  refine zC (zq ?_)
  refine zc (zH (zn (y3 ?_)))
  refine wg (xh ?_)
  refine vm rfl rfl nS (⟨by rw[e];rfl,rfl⟩)
 rw[hc110]at hb
 have e:cls n=1:=(if_neg (by simpa using ha)).trans (if_neg (by simpa using hb))
 refine yU (xA (zn (zC (zq ?_))))
 refine zc (zH (zn (y3 ?_)))
 refine vm rfl rfl nS (⟨by rw[e];rfl,rfl⟩)
def rq (c:Int):Bool:=decide (1≤c)&&decide (c≤31)
def rs (c:Int):Bool:=decide (64≤c)
theorem g0W (c:Int):Sp Tryz.prog 152 [.val (.int .i64 c)] [] (Is (.val (.bool (rq c)))):=by
 refine yH Tryz.func152 _ Tryz.ntmps152 (fun w0 R0=> ?_)
 refine zC (zq ?_)
 refine zc (zH (zn (zC (zq ?_))))
 refine zb ?_
 refine xR ?_
 refine zb ?_
 refine yl ?_
 refine xr 6 ?_
 refine zN ?_
 refine zc (zH (zn (y3 ?_)))
 refine yw
theorem b0M (c:Int):Sp Tryz.prog 63 [.val (.int .i64 c)] [] (Is (.val (.bool (rq c)))):=by
 refine yH Tryz.func63 _ Tryz.ntmps63 (fun w0 R0=> ?_)
 refine zC (zq ?_)
 refine zc (zH (zn (zC (zq ?_))))
 refine zb ?_
 refine xR ?_
 refine zb ?_
 refine yl ?_
 refine xr 6 ?_
 refine zN ?_
 refine zc (zH (zn (y3 ?_)))
 refine yw
theorem e0P (c:Int):Sp Tryz.prog 153 [.val (.int .i64 c)] [] (Is (.val (.bool (rs c)))):=by
 refine yH Tryz.func153 _ Tryz.ntmps153 (fun w0 R0=> ?_)
 refine zC (zq ?_)
 refine zc (zH (zn (zC (zq ?_))))
 refine zb ?_
 refine xR ?_
 refine zc (zH (zn (y3 ?_)))
 refine yw
theorem b0G (c:Int):Sp Tryz.prog 83 [.val (.int .i64 c)] [] (Is (.val (.bool (rs c)))):=by
 refine yH Tryz.func83 _ Tryz.ntmps83 (fun w0 R0=> ?_)
 refine zC (zq ?_)
 refine zc (zH (zn (zC (zq ?_))))
 refine zb ?_
 refine xR ?_
 refine zc (zH (zn (y3 ?_)))
 refine yw
theorem i0v (o:Opt)(h:o.val.length≤140737488355328):Sp Tryz.prog 155 [w0e o] [] (Is (w0e o)):=by
 refine yH Tryz.func155 _ Tryz.ntmps155 (fun w0 R0=> ?_)
 refine zC (zq ?_)
 refine z9 ?_
 intro B1
 refine z7 ?_
 intro B2
 refine zH (zn (zC ?_))
 refine yo 5 ?_
 simp only[cT,cZ,cD,cO]
 refine yn ?_
 refine zO ?_
 refine yn ?_
 refine zO ?_
 refine wb ?_
 refine vf ?_
 simp only[a0g,cN,cA,cP]
 rintro _ _ ⟨V3,rfl,hV3,rfl⟩
 simp only[cA,cN]
 refine AO.g ?_
 refine yL 0 [7] ?_
 refine AO.u ?_
 dsimp only[List.map,List.eraseIdx,cA,cN]
 refine zM ?_
 refine zm 0 (zH (zn (y3 ?_)))
 refine AQ.retCell rfl rfl (by repeat(exact List.Mem.head _)) (by rfl) rfl nS (⟨rfl,rfl⟩)
theorem u0h (n:Int):1≤cls n∧cls n≤3:=by unfold cls;(repeat' split)<;>omega
def inO (c:Int)(o:Opt):Opt:=if o.num=6∧rs c=true then⟨o.num,[]⟩else o
def inL (c:Int)(os:List Opt):List Opt:=(os.filter fun o=>decide (cls o.num≠2)).map (inO c)
def h0Z (os:List Opt):List Opt:=os.filter fun o=>decide (cls o.num=2∨o.num=6)
def e0x (os:List Opt):Bool:=os.any fun o=>decide (o.num=6)
def q0J (os:List Opt):Bool:=os.any fun o=>decide (o.num=9∨o.num=35)
theorem p0x (c:Int)(os:List Opt)(o:Opt):inL c (os++[o])=if cls o.num≠2 then inL c os++[inO c o]else inL c os:=by
 unfold inL
 rw[List.filter_append,List.map_append]
 by_cases h:cls o.num=2<;>simp[h]
theorem m0T (os:List Opt)(o:Opt):h0Z (os++[o])=if cls o.num=2∨o.num=6 then h0Z os++[o]else h0Z os:=by
 unfold h0Z
 rw[List.filter_append]
 by_cases h:cls o.num=2∨o.num=6<;>simp[h]
theorem i0J (os:List Opt)(o:Opt):e0x (os++[o])=(e0x os||decide (o.num=6)):=by simp[e0x]
theorem n0W (os:List Opt)(o:Opt):q0J (os++[o])=(q0J os||decide (o.num=9∨o.num=35)):=by simp[q0J]
theorem s0p (c:Int)(os:List Opt):(inL c os).length≤os.length:=by rw[inL,List.length_map];exact List.length_filter_le _ _
theorem k0c (os:List Opt):(h0Z os).length≤os.length:=List.length_filter_le _ _
def p0f (m:Msg):Int:=if rq m.code=true then(if e0x m.opts=true then 5 else 2)else(if e0x m.opts=true then 69 else 68)
def inM (m:Msg):Msg:=⟨0,m.code,0,[],inL m.code m.opts,m.pay⟩
def s0U (m:Msg):Msg:=⟨m.ty,p0f m,m.id,m.tok,h0Z m.opts,[]⟩
def a0Q (m:Msg):Msg×Msg×Int:=
 if ValM m∧(rq m.code=true∨rs m.code=true)then(if q0J m.opts=true then(Msg.none,Msg.none,15)else(inM m,s0U m,0))else(Msg.none,Msg.none,1)
abbrev v0M (r:Msg×Msg×Int):AV:= .tup [b0n r.1,b0n r.2.1,.val (.int .i64 r.2.2)]
theorem i0S {m a b:Msg}{e:Int}(h:a0Q m=(a,b,e)):Is (v0M (a0Q m)) (.tup [b0n a,b0n b,.val (.int .i64 e)]) []:=by rw[h];exact⟨rfl,rfl⟩
theorem ValM.sm {m:Msg}(h:ValM m):m.tok.length≤8∧m.pay.length≤4096∧m.opts.length≤32∧ ∀k,k<m.opts.length→(oat m.opts k).val.length≤1034:=by
 obtain⟨⟨-,h2,h3, -, -,h6⟩, -⟩:=h
 exact⟨by omega,by omega,by omega,fun k hk=>by have:=(c0W h3 hk).2.2;omega⟩
def ltO (os:List Opt)(n:Int):List Opt:=os.filter fun o=>decide (o.num<n)
def gtO (os:List Opt)(n:Int):List Opt:=os.filter fun o=>decide (n<o.num)
def eqO (n:Int)(vs:List (List UInt8)):List Opt:=vs.map fun v=>⟨n,v⟩
def h0z (os:List Opt)(n:Int)(vs:List (List UInt8)):List Opt:=ltO os n++eqO n vs++gtO os n
theorem p0q (os:List Opt)(o:Opt)(n:Int):ltO (os++[o]) n=if o.num<n then ltO os n++[o]else ltO os n:=by
 unfold ltO
 rw[List.filter_append]
 by_cases h:o.num<n<;>simp[h]
theorem p0D (os:List Opt)(o:Opt)(n:Int):gtO (os++[o]) n=if n<o.num then gtO os n++[o]else gtO os n:=by
 unfold gtO
 rw[List.filter_append]
 by_cases h:n<o.num<;>simp[h]
theorem n0k (os:List Opt)(n:Int):(ltO os n).length≤os.length:=List.length_filter_le _ _
theorem n0u (os:List Opt)(n:Int):(gtO os n).length≤os.length:=List.length_filter_le _ _
theorem j0j (n:Int)(vs:List (List UInt8)):(eqO n vs).length=vs.length:=by simp[eqO]
theorem e0R {os:List Opt}{n:Int}{vs:List (List UInt8)}{o:Opt}(h:o∈h0z os n vs):o∈os∨ ∃v∈vs,o=⟨n,v⟩:=by
 unfold h0z ltO gtO eqO at h
 simp only[List.mem_append,List.mem_filter,List.mem_map]at h
 rcases h with(h|⟨v,h,rfl⟩)|h
 ·exact .inl h.1
 ·exact .inr ⟨v,h,rfl⟩
 exact .inl h.1
theorem o0v (os:List Opt)(n:Int)(vs:List (List UInt8)):(h0z os n vs).length≤os.length+os.length+vs.length:=by
 have:=n0k os n
 have:=n0u os n
 simp only[h0z,cH,j0j];omega
theorem m0i (m:Msg)(n:Int)(vs:List (List UInt8))(h1:m.tok.length≤140737488355328)(h2:m.pay.length≤140737488355328)(h3:m.opts.length≤100000)(h4:vs.length≤100000)(hat: ∀o∈m.opts,o.val.length≤140737488355328)(hvs: ∀v∈vs,v.length≤140737488355328):
  Sp Tryz.prog 25 [b0n m,.val (.int .i64 n),t0q vs] [] (Is (b0n ⟨m.ty,m.code,m.id,m.tok,h0z m.opts n vs,m.pay⟩)):=by
 have hat2: ∀o∈h0z m.opts n vs,o.val.length≤140737488355328:=fun o ho=>by
  rcases e0R ho with h|⟨v,h,rfl⟩
  ·exact hat o h
  exact hvs v h
 have hsl:=o0v m.opts n vs
 refine yH Tryz.func25 _ Tryz.ntmps25 (fun w0 R0=> ?_)
 refine zC (zq ?_)
 refine z9 ?_
 intro B1
 refine zd ?_
 intro B2
 refine zH (zn (zC (zq ?_)))
 refine zc (zH (zn (zC (zC (zq ?_)))))
 refine zt ?_
 refine zp ?_
 refine zZ ?_
 refine zb (zH (zn (xb ?_)))
 refine AW.g ?_
 refine G.nilRow 96 2 ?_
 refine AW.u ?_
 refine zh [(1,_),(2,_),(3,_),(6,_),(15,_),(16,_)] (fun nn E H=> ∃(k:Nat) (V:Value),(k≤m.opts.length)∧(V.oneCell'=true)∧nn=m.opts.length-k∧E= [(7,.val V),(17,.val (.int .i64 (k:Int)))]∧H= [.row V 96 2 (ltO (m.opts.take k) n).length (a0C (ltO (m.opts.take k) n)),.blk B2 29 6 [.val (.int .i64 0),.val (.int .i64 0),.val (.int .i64 0),.val (.slice none 0 0),.val (.slice none 0 0),.val (.slice none 0 0)],.blk B1 29 6 [.val (.int .i64 m.ty),.val (.int .i64 m.code),.val (.int .i64 m.id),roB m.tok,roO m.opts,roB m.pay]]) _ (⟨0,_,by omega,rfl,rfl,rfl,rfl⟩) ?_
 rintro nn E H ⟨k,V,h5,hV,rfl,rfl,rfl⟩
 dsimp only[cA,cN]
 have hl:=n0k (m.opts.take k) n
 rw[List.length_take]at hl
 refine zC (zq ?_)
 refine zR (zH (zn (zC ?_)))
 refine ym (fun h6=> ?_) (fun h6=> ?_)<;>(try simp only[vU]at h6)
 ·have hk:k<m.opts.length:=by omega
  have hsc:=p0q (m.opts.take k) (oat m.opts k) n
  rw[←a0i Opt.none hk]at hsc
  refine yU (zn (zC (xb (zC (zq ?_)))))
  refine yf ?_
  refine yV ?_
  refine zd ?_
  intro B3
  refine za 0 (zH (zn (zC (zq ?_))))
  refine zt ?_
  refine zA ?_
  refine zb ?_
  refine zR (zH (zn ?_))
  refine ym (fun h7=> ?_) (fun h7=> ?_)<;>(try simp only[vU]at h7)
  ·rw[if_pos h7]at hsc
   refine zq ?_
   refine zb ?_
   refine zI ?_
   refine zU ?_
   intro B4
   refine AO.g ?_
   refine yr 0 27 ?_
   refine wH 27 ?_
   refine AO.u ?_
   dsimp only[List.eraseIdx]
   refine zB 1 ?_
   intro V5 hV5
   refine zc (zH (xA (zn (zq ?_))))
   refine zx ?_
   refine zb (zH ?_)
   refine zJ _ _ _ (by omega) (⟨k+1,_,by omega,‹_›,rfl,rfl,by rw[hsc,a0M,cH]⟩)
  rw[if_neg (by omega)]at hsc
  refine yU (xA (zn (zq ?_)))
  refine zx ?_
  refine zb (zH ?_)
  refine zJ _ _ _ (by omega) (⟨k+1,_,by omega,hV,rfl,rfl,by rw[hsc]⟩)
 obtain rfl:k=m.opts.length:=by omega
 rw[List.take_length]at hl⊢
 refine wm ?_
 refine xY ?_
 refine wa ?_
 refine xq (zn (zC (zC (zq ?_))))
 refine zb ?_
 refine zZ ?_
 refine zb (zH (zn (xb ?_)))
 refine zh [(1,_),(3,_),(6,_),(30,_),(31,_)] (fun nn E H=> ∃(j:Nat) (V:Value),(j≤vs.length)∧(V.oneCell'=true)∧nn=vs.length-j∧E= [(7,.val V),(32,.val (.int .i64 (j:Int)))]∧H= [.row V 96 2 (ltO m.opts n++eqO n (vs.take j)).length (a0C (ltO m.opts n++eqO n (vs.take j))),.blk B2 29 6 [.val (.int .i64 0),.val (.int .i64 0),.val (.int .i64 0),.val (.slice none 0 0),.val (.slice none 0 0),.val (.slice none 0 0)],.blk B1 29 6 [.val (.int .i64 m.ty),.val (.int .i64 m.code),.val (.int .i64 m.id),roB m.tok,roO m.opts,roB m.pay]]) _ (⟨0,_,by omega,hV,rfl,rfl,by rw[show ltO m.opts n++eqO n (vs.take 0)=ltO m.opts n by simp[eqO]]⟩) ?_
 rintro nn E H ⟨j,V,h8,hV,rfl,rfl,rfl⟩
 dsimp only[cA,cN]
 have hl2:(ltO m.opts n++eqO n (vs.take j)).length=(ltO m.opts n).length+j:=by rw[cH,j0j,List.length_take];omega
 refine zC (zq ?_)
 refine zR (zH (zn (zC ?_)))
 refine ym (fun h9=> ?_) (fun h9=> ?_)<;>(try simp only[vU]at h9)
 ·have hj:j<vs.length:=by omega
  have hsc:ltO m.opts n++eqO n (vs.take (j+1))=(ltO m.opts n++eqO n (vs.take j))++[⟨n,vat vs j⟩]:=by
   rw[a0i [] hj];simp[eqO]
  refine yU (zn (zC (xb (zC (zq ?_)))))
  refine yf ?_
  refine vO (O.loadR rfl rfl (by exact f0Q (by omega) (by omega))) ?_
  refine zc (zH (zn (zq ?_)))
  refine zb ?_
  refine zb ?_
  refine zb ?_
  refine zM ?_
  refine zU ?_
  intro B6
  refine AO.g ?_
  refine yr 0 40 ?_
  refine wH 40 ?_
  refine AO.u ?_
  dsimp only[List.eraseIdx]
  refine zB 0 ?_
  intro V7 hV7
  refine zc (zH (xA (zn (zq ?_))))
  refine zx ?_
  refine zb (zH ?_)
  refine zr _ _ _ (by omega) (⟨j+1,_,by omega,‹_›,rfl,rfl,by rw[hsc,a0M,cH]⟩)
 obtain rfl:j=vs.length:=by omega
 rw[List.take_length]at hl2⊢
 refine wm ?_
 refine xY ?_
 refine wa ?_
 refine xq (zn (zC (zC (zq ?_))))
 refine zt ?_
 refine zp ?_
 refine zZ ?_
 refine zb (zH (zn (xb ?_)))
 refine zh [(1,_),(3,_),(6,_),(44,_),(45,_)] (fun nn E H=> ∃(i:Nat) (V:Value),(i≤m.opts.length)∧(V.oneCell'=true)∧nn=m.opts.length-i∧E= [(7,.val V),(46,.val (.int .i64 (i:Int)))]∧H= [.row V 96 2 (ltO m.opts n++eqO n vs++gtO (m.opts.take i) n).length (a0C (ltO m.opts n++eqO n vs++gtO (m.opts.take i) n)),.blk B2 29 6 [.val (.int .i64 0),.val (.int .i64 0),.val (.int .i64 0),.val (.slice none 0 0),.val (.slice none 0 0),.val (.slice none 0 0)],.blk B1 29 6 [.val (.int .i64 m.ty),.val (.int .i64 m.code),.val (.int .i64 m.id),roB m.tok,roO m.opts,roB m.pay]]) _ (⟨0,_,by omega,hV,rfl,rfl,by rw[show ltO m.opts n++eqO n vs++gtO (m.opts.take 0) n=ltO m.opts n++eqO n vs by simp[gtO]]⟩) ?_
 rintro nn E H ⟨i,V,h10,hV,rfl,rfl,rfl⟩
 dsimp only[cA,cN]
 have hl3:=n0u (m.opts.take i) n
 rw[List.length_take]at hl3
 have hl4:(ltO m.opts n++eqO n vs++gtO (m.opts.take i) n).length=(ltO m.opts n++eqO n vs).length+(gtO (m.opts.take i) n).length:=List.length_append
 refine zC (zq ?_)
 refine zR (zH (zn (zC ?_)))
 refine ym (fun h11=> ?_) (fun h11=> ?_)<;>(try simp only[vU]at h11)
 ·have hk:i<m.opts.length:=by omega
  have hsc:=p0D (m.opts.take i) (oat m.opts i) n
  rw[←a0i Opt.none hk]at hsc
  refine yU (zn (zC (xb (zC (zq ?_)))))
  refine yf ?_
  refine yV ?_
  refine zd ?_
  intro B8
  refine za 0 (zH (zn (zC (zq ?_))))
  refine zt ?_
  refine zA ?_
  refine zb ?_
  refine yN (zH (zn ?_))
  refine ym (fun h12=> ?_) (fun h12=> ?_)<;>(try simp only[vU]at h12)
  ·rw[if_pos h12]at hsc
   refine zq ?_
   refine zb ?_
   refine zI ?_
   refine zU ?_
   intro B9
   refine AO.g ?_
   refine yr 0 56 ?_
   refine wH 56 ?_
   refine AO.u ?_
   dsimp only[List.eraseIdx]
   refine zB 1 ?_
   intro V10 hV10
   refine zc (zH (xA (zn (zq ?_))))
   refine zx ?_
   refine zb (zH ?_)
   refine zJ _ _ _ (by omega) (⟨i+1,_,by omega,‹_›,rfl,rfl,by rw[hsc,←List.append_assoc,a0M,List.length_append (bs:= [_])]⟩)
  rw[if_neg (by omega)]at hsc
  refine yU (xA (zn (zq ?_)))
  refine zx ?_
  refine zb (zH ?_)
  refine zJ _ _ _ (by omega) (⟨i+1,_,by omega,hV,rfl,rfl,by rw[hsc]⟩)
 obtain rfl:i=m.opts.length:=by omega
 rw[List.take_length]
 refine AW.g ?_
 refine yj 0 [7] ?_
 refine AW.u ?_
 try dsimp only[List.map,List.eraseIdx,cA,cN]
 refine wm ?_
 refine xY ?_
 refine wa ?_
 refine xq (zn (zC (zq ?_)))
 refine zw ?_
 refine zb ?_
 refine vO (xD rfl Tryz.func75 rfl rfl rfl (q0W m (h0z m.opts n vs) h1 h2 (by omega) hat2)) ?_
 refine za 0 (zH (zn (y3 ?_)))
 refine AQ.retCell rfl rfl (by repeat(exact List.Mem.head _)) (by(dsimp only[List.set,cA,cN,List.take,List.drop];rfl)) rfl nS (⟨rfl,rfl⟩)
end Go.Proofs.YtojomcdjcpmnkaaGreat.By
namespace Go.Proofs.YtojomcdjcpmnkaaGreat.By
open Go.RowKit L A Dk
attribute [local irreducible] AW AQ AO
theorem k0I: ∀{l:Int} {os:List Opt},AscO l os↔os.Pairwise (fun a b=>a.num≤b.num)∧ ∀o∈os,l≤o.num∧o.num≤65535∧(o.val.length:Int)≤1034
 |l,[]=>by simp[AscO]
 | l,o::os=>by
  rw[AscO,k0I,List.pairwise_cons]
  simp only[List.mem_cons,forall_eq_or_imp]
  constructor
  ·rintro⟨h1,h2,h3,h4,h5⟩
   exact⟨⟨fun a ha=>(h5 a ha).1,h4⟩,⟨h1,h2,h3⟩,fun a ha=>⟨Int.le_trans h1 (h5 a ha).1,(h5 a ha).2⟩⟩
  rintro⟨⟨h1,h2⟩,⟨h3,h4,h5⟩,h6⟩
  exact⟨h3,h4,h5,h2,fun a ha=>⟨h1 a ha,(h6 a ha).2⟩⟩
theorem o0w {os:List Opt}{n:Int}{vs:List (List UInt8)}(h:AscO 0 os)(hn:0≤n∧n≤65535)(hv: ∀v∈vs,(v.length:Int)≤1034):AscO 0 (h0z os n vs):=by
 rw[k0I]at h⊢
 obtain⟨h1,h2⟩:=h
 refine⟨?_,fun o ho=> ?_⟩
 ·unfold h0z ltO gtO eqO
  rw[List.pairwise_append,List.pairwise_append]
  refine⟨⟨h1.filter _,?_,?_⟩,h1.filter _,?_⟩
  ·rw[List.pairwise_map]
   exact List.Pairwise.imp (R:=fun _ _=>True) (fun _=>Int.le_refl _) (List.pairwise_of_forall (fun _ _=>trivial))
  ·intro a ha b hb
   simp only[List.mem_filter,cQ,List.mem_map]at ha hb
   obtain⟨v, -,rfl⟩:=hb
   simp only;omega
  intro a ha b hb
  simp only[List.mem_append,List.mem_filter,cQ,List.mem_map]at ha hb
  rcases ha with ha|⟨v, -,rfl⟩
  ·omega
  simp only;omega
 rcases e0R ho with ho|⟨v,hv',rfl⟩
 ·exact h2 o ho
 exact⟨hn.1,hn.2,hv v hv'⟩
theorem g0s (n:Int): ∀os:List Opt,(ltO os n).length+(c0a os n).length+(gtO os n).length=os.length
 | []=>rfl
 |o::os=>by
  have:=g0s n os
  unfold ltO c0a gtO at*
  simp only[List.filter_cons,List.length_map]at*
  rcases Int.lt_trichotomy o.num n with h|h|h
  ·rw[if_pos (by simpa using h),if_neg (by simp;omega),if_neg (by simp;omega)];simp only[cL];omega
  ·rw[if_neg (by simp;omega),if_pos (by simpa using h),if_neg (by simp;omega)];simp only[cL];omega
  rw[if_neg (by simp;omega),if_neg (by simp;omega),if_pos (by simpa using h)];simp only[cL];omega
theorem m0j (os:List Opt)(n:Int)(v:List UInt8):(h0z os n (c0a os n++[v])).length=os.length+1:=by
 have:=g0s n os
 simp only[h0z,cH,j0j,cL,cE];omega
theorem k0E {os:List Opt}{n:Int}{v:List UInt8}(h:v∈c0a os n): ∃o∈os,o.val=v:=by
 unfold c0a at h
 obtain⟨o,ho,rfl⟩:=List.mem_map.1 h
 exact⟨o,(List.mem_filter.1 ho).1,rfl⟩
def q0T (c:Int):Prop:=0≤c∧c≤255∧h0y c
def OptsOk (n:Nat)(os:List Opt):Prop:=AscO 0 os∧os.length≤n∧ ∀o∈os,o.val.length≤5
theorem OptsOk.add {c:Nat}{os:List Opt}(h:OptsOk c os){n:Int}(hn:0≤n∧n≤65535){v:List UInt8}(hv:v.length≤5):OptsOk (c+1) (h0z os n (c0a os n++[v])):=by
 have hm: ∀w∈c0a os n++[v],w.length≤5:=fun w hw=>by
  rcases List.mem_append.1 hw with hw|hw
  ·obtain⟨o,ho,rfl⟩:=k0E hw
   exact h.2.2 o ho
  obtain rfl:w=v:=by simpa using hw
  exact hv
 refine⟨o0w h.1 hn fun w hw=>by have:=hm w hw;omega,by rw[m0j];have:=h.2.1;omega,fun o ho=> ?_⟩
 rcases e0R ho with ho|⟨w,hw,rfl⟩
 ·exact h.2.2 o ho
 exact hm w hw
theorem t0m {m:Msg}{n:Int}{vs:List (List UInt8)}{N:Nat}{xs:List AV}(e1:N=vs.length)(e2:xs=bsA vs)(h1:m.tok.length≤140737488355328)(h2:m.pay.length≤140737488355328)(h3:m.opts.length≤100000)(h4:vs.length≤100000)(hat: ∀o∈m.opts,o.val.length≤140737488355328)(hvs: ∀v∈vs,v.length≤140737488355328):
  Sp Tryz.prog 25 [b0n m,.val (.int .i64 n),.ro false N xs] [] (Is (b0n ⟨m.ty,m.code,m.id,m.tok,h0z m.opts n vs,m.pay⟩)):=by
 subst e1;subst e2
 exact m0i m n vs h1 h2 h3 h4 hat hvs
theorem OptsOk.big {n:Nat}{os:List Opt}(h:OptsOk n os): ∀o∈os,o.val.length≤140737488355328:=fun o ho=>by have:=h.2.2 o ho;omega
theorem OptsOk.vals {n:Nat}{os:List Opt}(h:OptsOk n os){x:Int}{v:List UInt8}(hv:v.length≤5): ∀w∈c0a os x++[v],w.length≤140737488355328:=fun w hw=>by
 rcases List.mem_append.1 hw with hw|hw
 ·obtain⟨o,ho,rfl⟩:=k0E hw
  have:=h.2.2 o ho;omega
 obtain rfl:w=v:=by simpa using hw
 omega
def MsgOk (c:Int)(m:Msg):Prop:=ValM m∧m.code=c∧m.tok.length≤8∧m.pay.length≤20∧m.opts.length≤5∧ ∀o∈m.opts,o.val.length≤5
theorem MsgOk.sm {c:Int}{m:Msg}(h:MsgOk c m):SmM m:=⟨by have:=h.2.2.1;omega,by have:=h.2.2.2.1;omega,by have:=h.2.2.2.2.1;omega,fun o ho=>by have:=h.2.2.2.2.2 o ho;omega⟩
theorem f0r {m:Msg}(h1:m.tok.length≤8)(h2:m.pay.length≤20)(h3:m.opts.length≤5)(ha:AscO 0 m.opts)(h4: ∀o∈m.opts,o.val.length≤5):(raw m).length≤4096:=by
 have key: ∀(os:List Opt) (l:Int),(∀o∈os,o.val.length≤5)→(g0y l os).length≤os.length*10:=by
  intro os
  induction os with
  |nil=>intro l _;simp[g0y]
  |cons o os ih=>
   intro l h
   have g1:=ih o.num fun p hp=>h p (List.mem_cons_of_mem _ hp)
   have g2:=n0t (o.num-l) o.val.length
   have g3:=h o (List.mem_cons_self ..)
   simp only[g0y,cH,cL];omega
 have g1:=key m.opts 0 h4
 have g2:(if m.pay= []then []else(255:UInt8)::m.pay).length≤m.pay.length+1:=by split<;>simp
 simp only[raw,f0y,cH,cL,cE]at g2⊢
 omega
theorem MsgOk.mk {t c i:Int}{x p:List UInt8}{os:List Opt}(ht:0≤t∧t<2)(hc:q0T c)(hc0:c≠0)(hi:0≤i∧i<65536)(hx:x.length≤4)(ho:OptsOk 5 os)(hp:p.length≤20):MsgOk c ⟨t,c,i,x,os,p⟩:=by
 refine⟨⟨⟨⟨ht.1,by simp only;omega,hc.1,hc.2.1,hc.2.2⟩,⟨hi.1,by simp only;omega,by simp only;omega,by have:=ho.2.1;simp only;omega⟩,ho.1,fun h=>absurd h hc0,fun h=>by simp only at h;omega,by simp only;omega⟩,?_⟩,rfl,by simp only;omega,hp,ho.2.1,ho.2.2⟩
 have:=f0r (m:=⟨t,c,i,x,os,p⟩) (by simp only;omega) hp ho.2.1 ho.1 ho.2.2
 omega
theorem MsgOk.zero {t i:Int}(ht:0≤t∧t<4)(hi:0≤i∧i<65536):MsgOk 0 ⟨t,0,i,[],[],[]⟩:=by
 refine⟨⟨⟨⟨ht.1,by simp only;omega,by simp,by simp,.inl rfl⟩,⟨hi.1,by simp only;omega,by simp,by simp⟩,trivial,fun _=>by simp,fun _=>rfl,by simp⟩,?_⟩,rfl,by simp,by simp,by simp,by simp⟩
 have:=f0r (m:=⟨t,0,i,[],[],[]⟩) (by simp) (by simp) (by simp) trivial (by simp)
 omega
def f0Y (m:Msg):Prop:=(m.opts.length≤20∧m.tok.length≤900∧m.pay.length≤900)∧ ∀k,k<m.opts.length→(oat m.opts k).val.length≤900
instance (m:Msg):Decidable (f0Y m):=by unfold f0Y;infer_instance
theorem e0Q (b:List UInt8):Sp Tryz.prog 53 [roB b] [] (Is (.val (.bool (decide ((b.length:Int)≤900))))):=by
 refine yH Tryz.func53 _ Tryz.ntmps53 (fun w0 R0=> ?_)
 refine zC (zq ?_)
 refine zc (zH (zn (zC (zq ?_))))
 refine zb ?_
 refine zZ ?_
 refine vL ?_
 refine zc (zH (zn (y3 ?_)))
 refine yw
theorem m0e (m:Msg)(hp:m.opts.length≤maxLen):Sp Tryz.prog 9 [b0n m] [] (Is (.val (.bool (decide (f0Y m))))):=by
 unfold maxLen at hp
 refine yH Tryz.func9 _ Tryz.ntmps9 (fun w0 R0=> ?_)
 refine zC (zq ?_)
 refine z9 ?_
 intro B1
 refine zc (zH (zn (zC (zC (zq ?_)))))
 refine zt ?_
 refine zA ?_
 refine zZ ?_
 refine zb (zH (zn (xb ?_)))
 refine zh [(1,_),(6,_),(7,_)] (fun nn E H=> ∃(k:Nat),(k≤m.opts.length)∧(∀j,j<k→(oat m.opts j).val.length≤900)∧nn=m.opts.length-k∧E= [(8,.val (.int .i64 (k:Int)))]∧H= [.blk B1 29 6 [.val (.int .i64 m.ty),.val (.int .i64 m.code),.val (.int .i64 m.id),roB m.tok,roO m.opts,roB m.pay]]) _ (⟨0,by omega,by omega,rfl,rfl,rfl⟩) ?_
 rintro nn E H ⟨k,hk,hh,rfl,rfl,rfl⟩
 dsimp only[cA,cN]
 refine zC (zq ?_)
 refine zR (zH (zn (zC ?_)))
 refine ym (fun h2=> ?_) (fun h2=> ?_)<;>(try simp only[vU]at h2)
 ·have hk2:k<m.opts.length:=by omega
  refine yU (zn (zC (xb (zC (zq ?_)))))
  refine yf ?_
  refine yV ?_
  refine zd ?_
  intro B2
  refine za 0 (zH (zn (zC (zq ?_))))
  refine zt ?_
  refine zA ?_
  refine vO (xD rfl Tryz.func53 rfl rfl rfl (e0Q _)) ?_
  refine xo (zH (zn ?_))
  refine ym (fun h3=> ?_) (fun h3=> ?_)<;>(try simp only[vU]at h3)
  ·have e:decide (f0Y m)=false:=decide_eq_false fun hl=>by have:=hl.2 k hk2;omega
   refine zC (zq ?_)
   refine zc (zH (zn (y3 ?_)))
   refine wg (xh ?_)
   refine AQ.loopR ?_
   refine wg (xh ?_)
   refine vm rfl rfl nS (⟨by rw[e];rfl,rfl⟩)
  refine yU (xA (zn (zq ?_)))
  refine zx ?_
  refine zb (zH ?_)
  refine zJ _ _ _ (by omega) (⟨k+1,by omega,fun j hj=>(Nat.lt_or_ge j k).elim (hh j) (fun h5=>by rw[show j=k by omega];omega),rfl,rfl,rfl⟩)
 obtain rfl:k=m.opts.length:=by omega
 refine wm ?_
 refine xY ?_
 refine wa ?_
 refine xq (zn (zC (zq ?_)))
 refine zt ?_
 refine zA ?_
 refine zZ ?_
 refine vL ?_
 refine zb ?_
 refine zK ?_
 refine zu 22 ?_
 refine AO.opG rfl rfl rfl (fun hp=>wP 23 rfl (by exact hp) (xD rfl Tryz.func53 rfl rfl rfl (e0Q _))) ?_
 refine zN ?_
 refine zb ?_
 refine zK ?_
 refine zu 27 ?_
 refine AO.opG rfl rfl rfl (fun hp=>wP 28 rfl (by exact hp) (xD rfl Tryz.func53 rfl rfl rfl (e0Q _))) ?_
 refine zN ?_
 refine zc (zH (zn (y3 ?_)))
 have e:decide (f0Y m)=(decide ((m.opts.length:Int)≤20)&&decide ((m.tok.length:Int)≤900)&&decide ((m.pay.length:Int)≤900)):=g0K (by
  simp only[f0Y,Bool.and_eq_true,cQ]
  exact⟨fun h=>by have:=h.1;omega,fun h=>⟨by omega,hh⟩⟩)
 refine vm rfl rfl nS (⟨congrArg (fun z=>AV.val (.bool z)) e.symm,rfl⟩)
def drL:List Int:= [1,3,4,6,7,11,12,14,15,16,17,23,27,39,60,252,258,292,300]
theorem v0s {z:Int}(h0:0≤z)(h1:z<19){j:Nat}(hj:j=z.toNat*1):([.val (.int .i64 1),.val (.int .i64 3),.val (.int .i64 4),.val (.int .i64 6),.val (.int .i64 7),.val (.int .i64 11),.val (.int .i64 12),.val (.int .i64 14),.val (.int .i64 15),.val (.int .i64 16),.val (.int .i64 17),.val (.int .i64 23),.val (.int .i64 27),.val (.int .i64 39),.val (.int .i64 60),.val (.int .i64 252),.val (.int .i64 258),.val (.int .i64 292),.val (.int .i64 300)]:List AV)[j]? =some (.val (.int .i64 (drL.getD z.toNat 0))):=by
 subst hj
 rw[Nat.mul_one]
 have h2:z.toNat<19:=by omega
 have: ∀k,k<19→([1,3,4,6,7,11,12,14,15,16,17,23,27,39,60,252,258,292,300]:List Int)[k]? =some (drL.getD k 0):=by decide
 have:=congrArg (Option.map (fun n:Int=>AV.val (.int .i64 n))) (this _ h2)
 rw[←List.getElem?_map]at this
 exact this
theorem u0c {z:Int}(h0:0≤z)(h1:z<19):drL.getD z.toNat 0∈drL:=by
 have: ∀k,k<19→drL.getD k 0∈drL:=by decide
 exact this _ (by omega)
theorem v0r {n:Int}(h:n∈drL):0≤n∧n≤65535:=by
 have: ∀n∈drL,0≤n∧n≤65535:=by decide
 exact this n h
def Dr (n:Nat)(os:List Opt):Prop:=OptsOk n os∧ ∀o∈os,o.num∈drL
theorem Dr.add {c:Nat}{os:List Opt}(h:Dr c os){n:Int}(hn:n∈drL){v:List UInt8}(hv:v.length≤5):Dr (c+1) (h0z os n (c0a os n++[v])):=
 ⟨h.1.add (v0r hn) hv,fun o ho=>by
  rcases e0R ho with ho|⟨w,hw,rfl⟩
  ·exact h.2 o ho
  exact hn⟩
theorem p0Z (ty code id:Int)(tok:List UInt8)(os:List Opt)(pay:List UInt8)(n:Int)(h3:os.length≤1000000)(hat: ∀o∈os,o.val.length≤140737488355328):Sp Tryz.prog 71 [b0n ⟨ty,code,id,tok,os,pay⟩,.val (.int .i64 n)] []
  (fun v' Hn=> ∃v:Value,v'= .val v∧v.oneCell'=true∧Hn= [.row v 22 1 (c0a os n).length (bsA (c0a os n))]∧(c0a os n).length≤os.length):=
 (s0H ⟨ty,code,id,tok,os,pay⟩ n h3 hat).mono fun r H' ⟨v,h1,h2,h3⟩=>⟨v,h1,h2,h3,d0W _ _⟩
abbrev wO (m:Msg)(os:List Opt):Msg:=⟨m.ty,m.code,m.id,m.tok,os,m.pay⟩
theorem j0n (b:Nat)(l:List Int)(k:Nat)(m:Msg)(hl:l.length≤maxLen)(hk:k≤l.length)(hm:m.opts= [])(ht:m.tok.length≤1000)(hp:m.pay.length≤1000):
  Sp Tryz.prog 56 [ptr b,b0n m] [i0t b l k] (Gen b l fun r=> ∃os,Dr 5 os∧r=b0n (wO m os)):=by
 obtain⟨ty,code,id,tok,opts,pay⟩:=m
 simp only at hm ht hp
 subst hm
 refine yH Tryz.func56 _ Tryz.ntmps56 (fun w0 R0=> ?_)
 refine zC (zq ?_)
 refine z9 ?_
 intro B1
 refine zd ?_
 intro B2
 refine zH (zn (zC (zC (zq ?_))))
 refine zb ?_
 refine AO.callMG 2 rfl rfl Tryz.func33 rfl rfl rfl rfl rfl rfl (a0S _ l _ _ hl (by assumption) (by omega) (by omega)) ?_
 rintro _ _ ⟨⟨z3,hz03,hz13,rfl⟩,kd3,hkd3,rfl⟩
 dsimp only[cA,cN,List.eraseIdx]
 refine zc (zH (zn (xb ?_)))
 obtain⟨c0,rfl⟩: ∃c:Nat,z3=(c:Int):=⟨z3.toNat,by omega⟩
 refine zh [(0,_),(3,_),(4,_)] (fun nn E H=> ∃(c:Nat) (os:List Opt) (kk:Nat),(c≤5)∧(Dr (5-c) os)∧(kk≤l.length)∧c=nn∧E= [(5,.val (.int .i64 (c:Int)))]∧H= [i0t b l kk,.blk B2 29 6 [.val (.int .i64 0),.val (.int .i64 0),.val (.int .i64 0),.val (.slice none 0 0),.val (.slice none 0 0),.val (.slice none 0 0)],.blk B1 29 6 [.val (.int .i64 ty),.val (.int .i64 code),.val (.int .i64 id),roB tok,roO os,roB pay]]) _ (⟨c0,[],kd3,by omega,⟨⟨trivial,by simp,by simp⟩,by simp⟩,hkd3,rfl,rfl,rfl⟩) ?_
 rintro nn E H ⟨c,os,kk,hc,ho,hkk,rfl,rfl,rfl⟩
 dsimp only[cA,cN]
 have hol:=ho.1.2.1
 have hal:=fun x=>d0W os x
 refine zC (zC (zq ?_))
 refine zb ?_
 refine yN (zH (zn ?_))
 refine ym (fun h=> ?_) (fun h=> ?_)<;>(try simp only[vU]at h)
 ·obtain⟨j,rfl⟩: ∃j,c=j+1:=⟨c-1,by omega⟩
  refine yU (zn (zC (xb (zC (zq ?_)))))
  refine zU ?_
  intro B4
  refine AO.g ?_
  refine yr 0 13 ?_
  refine wH 13 ?_
  refine AO.u ?_
  dsimp only[List.eraseIdx]
  refine zb ?_
  refine AO.callMG 0 rfl rfl Tryz.func33 rfl rfl rfl rfl rfl rfl (a0S _ l _ _ hl (by assumption) (by omega) (by omega)) ?_
  rintro _ _ ⟨⟨z5,hz05,hz15,rfl⟩,kd5,hkd5,rfl⟩
  dsimp only[cA,cN,List.eraseIdx]
  refine yf ?_
  refine vO (O.loadR rfl rfl (by exact v0s (by assumption) (by assumption) rfl)) ?_
  refine zc (zH (zn ?_))
  refine AW.regionS [[(0,false),(1,false),(2,false),(3,false),(5,false),(4,true),(6,true),(7,false),(8,true)],[(9,false)],[(10,true)]] (by kernel_rfl) (by kernel_rfl) ?_
  refine AMS.go (by exact(by exact a0h 0 0 rfl rfl a0c)) ?_
  try dsimp only[List.eraseIdx]
  refine zV ?_
  refine y0 ?_
  refine zV ?_
  refine y0 ?_
  refine y0 ?_
  refine xU _ (fun w0 R0=> ?_)
  refine AO.opN (xD rfl Tryz.func71 rfl rfl rfl (p0Z ty code id tok os pay _ (by omega) ho.1.big)) rfl rfl rfl ?_
  rintro _ _ ⟨V6,rfl,hV6,rfl,hb6⟩
  simp only[cA,cN]
  refine AM.ok ?_
  dsimp only[a0w]
  refine xU _ (fun w0 R0=> ?_)
  refine AO.callMG 1 rfl rfl Tryz.func24 rfl rfl rfl rfl rfl rfl (d0T _ l _ 4 hl (by assumption) (by omega)) ?_
  rintro _ _ ⟨⟨x7,hx7,rfl⟩,kd7,hkd7,rfl⟩
  dsimp only[cA,cN,List.eraseIdx]
  refine AM.ok ?_
  dsimp only[a0w]
  refine xp ?_
  refine xU _ (fun w0 R0=> ?_)
  refine zB 1 ?_
  intro V8 hV8
  refine AO.g ?_
  refine yL 1 [26] ?_
  refine AO.u ?_
  dsimp only[List.map,List.eraseIdx,cA,cN]
  refine AM.ok ?_
  dsimp only[a0w]
  refine vn ?_
  try dsimp only[cA,cN]
  refine AMS.go (by exact a0c) ?_
  try dsimp only[List.eraseIdx]
  refine vQ rfl (O.call rfl Tryz.func25 rfl rfl rfl (t0m (m:=⟨ty,code,id,tok,os,pay⟩) (n:=drL.getD z5.toNat 0) (vs:=c0a os (drL.getD z5.toNat 0)++[x7]) (N:=(c0a os (drL.getD z5.toNat 0)).length+1) (xs:=bsA (c0a os (drL.getD z5.toNat 0))++[roB x7]) (by rw[cH];rfl) (f0a _ _).symm (by show tok.length≤_;omega) (by show pay.length≤_;omega) (by show os.length≤100000;omega) (by rw[cH];simp only[cL,cE];omega) ho.1.big (ho.1.vals (by omega)))) ?_
  refine vn ?_
  try dsimp only[cA,cN]
  refine AMS.go (by exact(by exact a0h 3 2 rfl rfl a0c)) ?_
  try dsimp only[List.eraseIdx]
  refine xU _ (fun w0 R0=> ?_)
  refine za 0 (AM.okN ?_)
  dsimp only[a0w]
  refine vn ?_
  try dsimp only[cA,cN]
  refine AMS.nil (xA (zn (zq ?_)))
  refine zb ?_
  refine yG ?_
  refine zc (zH ?_)
  rw[show((j+1:Nat):Int)-1=(j:Int) by omega]
  have hadd:=ho.add (u0c hz05 hz15) (v:=x7) (by omega)
  rw[show 5-(j+1)+1=5-j by omega]at hadd
  refine xv _ _ _ (by omega) (⟨j,_,_,by omega,hadd,‹_›,rfl,rfl,rfl⟩)
 obtain rfl:c=0:=by omega
 refine wm ?_
 refine xY ?_
 refine wa ?_
 refine xq (zn (zC (zq ?_)))
 refine zw ?_
 refine za 1 (zH (zn (y3 ?_)))
 refine AQ.retCell rfl rfl mM (by(dsimp only[List.set,cA,cN,List.take,List.drop];rfl)) rfl ⟨_,by repeat(first|exact List.Sublist.slnil|refine List.Sublist.cons_cons _ ?_|refine List.Sublist.cons _ ?_),List.Perm.refl _⟩ (⟨⟨os,ho,rfl⟩,kk,hkk,rfl⟩)
def rqL:List Int:= [69,68,65,132,129,160,95]
theorem u0Y {z:Int}(h0:0≤z)(h1:z<7){j:Nat}(hj:j=z.toNat*1):([.val (.int .i64 69),.val (.int .i64 68),.val (.int .i64 65),.val (.int .i64 132),.val (.int .i64 129),.val (.int .i64 160),.val (.int .i64 95)]:List AV)[j]? =some (.val (.int .i64 (rqL.getD z.toNat 0))):=by
 subst hj
 rcases(show z=0∨z=1∨z=2∨z=3∨z=4∨z=5∨z=6 by omega)with rfl|rfl|rfl|rfl|rfl|rfl|rfl<;>rfl
def DM (q:Bool)(m:Msg):Prop:=(0≤m.ty∧m.ty≤2)∧(if q=true then 1≤m.code∧m.code≤7 else m.code∈rqL)∧(0≤m.id∧m.id<65536)∧(m.tok.length≤4∧m.pay.length≤20)∧Dr 5 m.opts
def x0j (q:Bool)(r:AV):Prop:= ∃m,DM q m∧r=b0n m
theorem DM.code {q:Bool}{m:Msg}(h:DM q m):q0T m.code∧rq m.code=q∧rs m.code= !q:=by
 obtain⟨-,h, -⟩:=h
 cases q
 ·rw[if_neg (by simp)]at h
  have: ∀c∈rqL,(0≤c∧c≤255∧(c/32=0∨c/32=2∨c/32=4∨c/32=5))∧rq c=false∧rs c=true:=by decide
  exact this _ h
 rw[if_pos rfl]at h
 refine⟨⟨by omega,by omega,?_⟩,?_,?_⟩
 ·unfold h0y;omega
 ·unfold rq;rw[decide_eq_true h.1,decide_eq_true (show m.code≤31 by omega)];rfl
 unfold rs;exact decide_eq_false (by omega)
theorem DM.val {q:Bool}{m:Msg}(h:DM q m):ValM m:=by
 obtain⟨c1, -, -⟩:=h.code
 obtain⟨h1,h2,h3,h4,h5⟩:=h
 have hn0:m.code≠0:=by
  cases q
  ·rw[if_neg (by simp)]at h2
   have: ∀c∈rqL,c≠0:=by decide
   exact this _ h2
  rw[if_pos rfl]at h2;omega
 refine⟨⟨⟨h1.1,by omega,c1.1,c1.2.1,c1.2.2⟩,⟨h3.1,by omega,by omega,by have:=h5.1.2.1;omega⟩,h5.1.1,fun h=>absurd h hn0,fun h=>by omega,by omega⟩,?_⟩
 have:=f0r (m:=m) (by omega) h4.2 h5.1.2.1 h5.1.1 h5.1.2.2
 omega
theorem x0n {ty code id:Int}{x p:List UInt8}:Coe (.agg [.val (.int .i64 ty),.val (.int .i64 code),.val (.int .i64 id),roB x,.val (.slice none 0 0),roB p]) (b0n ⟨ty,code,id,x,[],p⟩):=
 Coe.agg (.cons .rfl (.cons .rfl (.cons .rfl (.cons .rfl (.cons .nil (.cons .rfl .nil))))))
theorem h0M (b:Nat)(l:List Int)(k:Nat)(hl:l.length≤maxLen)(hk:k≤l.length):Sp Tryz.prog 15 [ptr b] [i0t b l k] (Gen b l (x0j false)):=by
 skip
 refine yH Tryz.func15 _ Tryz.ntmps15 (fun w0 R0=> ?_)
 refine zC (zq ?_)
 refine zd ?_
 intro B1
 refine zH (zn (zC ?_))
 refine AW.regionA _ (Al.mk' (i:=14) (d:=3) (T:=29) _ rfl rfl rfl rfl rfl (by(dsimp only[List.set,cA,cN,List.take,List.drop];done)) (by rfl)) [(0,false),(2,false),(3,false),(7,false),(9,false),(11,false),(1,true),(4,true),(5,false),(6,false),(8,true),(10,true),(12,true),(13,false),(14,true),(15,true)] (by kernel_rfl) (by kernel_rfl) (by exact(by exact a0h 0 1 rfl rfl a0c)) ?_
 dsimp only[List.eraseIdx]
 refine wW ?_
 refine vR rfl y6 ?_
 refine wW ?_
 refine wW ?_
 refine wW ?_
 refine wW ?_
 refine AN.main _ rfl rfl (fun w0 R0=> ?_)
 refine AO.callMG 0 rfl rfl Tryz.func33 rfl rfl rfl rfl rfl rfl (a0S _ l _ _ hl (by assumption) (by omega) (by omega)) ?_
 rintro _ _ ⟨⟨z2,hz02,hz12,rfl⟩,kd2,hkd2,rfl⟩
 dsimp only[cA,cN,List.eraseIdx]
 refine AM.ok ?_
 dsimp only[a0w]
 refine AN.main _ rfl rfl (fun w0 R0=> ?_)
 refine AO.callMG 0 rfl rfl Tryz.func33 rfl rfl rfl rfl rfl rfl (a0S _ l _ _ hl (by assumption) (by omega) (by omega)) ?_
 rintro _ _ ⟨⟨z3,hz03,hz13,rfl⟩,kd3,hkd3,rfl⟩
 dsimp only[cA,cN,List.eraseIdx]
 refine AM.ok ?_
 dsimp only[a0w]
 refine vR rfl yd ?_
 refine vR rfl (O.loadR rfl rfl (by exact u0Y (by assumption) (by assumption) rfl)) ?_
 refine AN.main _ rfl rfl (fun w0 R0=> ?_)
 refine AO.callMG 0 rfl rfl Tryz.func33 rfl rfl rfl rfl rfl rfl (a0S _ l _ _ hl (by assumption) (by omega) (by omega)) ?_
 rintro _ _ ⟨⟨z4,hz04,hz14,rfl⟩,kd4,hkd4,rfl⟩
 dsimp only[cA,cN,List.eraseIdx]
 refine AM.ok ?_
 dsimp only[a0w]
 refine AN.main _ rfl rfl (fun w0 R0=> ?_)
 refine AO.callMG 0 rfl rfl Tryz.func24 rfl rfl rfl rfl rfl rfl (d0T _ l _ 4 hl (by assumption) (by omega)) ?_
 rintro _ _ ⟨⟨x5,hx5,rfl⟩,kd5,hkd5,rfl⟩
 dsimp only[cA,cN,List.eraseIdx]
 refine AM.ok ?_
 dsimp only[a0w]
 refine AN.main _ rfl rfl (fun w0 R0=> ?_)
 refine AO.callMG 0 rfl rfl Tryz.func24 rfl rfl rfl rfl rfl rfl (d0T _ l _ 20 hl (by assumption) (by omega)) ?_
 rintro _ _ ⟨⟨x6,hx6,rfl⟩,kd6,hkd6,rfl⟩
 dsimp only[cA,cN,List.eraseIdx]
 refine AM.ok ?_
 dsimp only[a0w]
 refine vR rfl yb ?_
 refine AN.box rfl ?_
 intro B7
 dsimp only[Al.he]
 refine AN.main _ rfl rfl (fun w0 R0=> ?_)
 refine za 0 (AM.okN ?_)
 dsimp only[a0w]
 refine AN.nil ?_
 dsimp only[cA,cN]
 refine zn (zC (zq ?_))
 refine zb ?_
 refine zI ?_
 refine AO.g ?_
 refine G.coe 19 rfl x0n ?_
 refine AO.u ?_
 refine AO.callMG 1 rfl rfl Tryz.func56 rfl rfl rfl rfl rfl rfl (j0n _ l _ ⟨z2,rqL.getD z3.toNat 0,z4,x5,[],x6⟩ hl (by assumption) rfl (by simp only;omega) (by simp only;omega)) ?_
 rintro _ _ ⟨⟨os8,hos8,rfl⟩,kd8,hkd8,rfl⟩
 dsimp only[cA,cN,List.eraseIdx]
 refine za 2 (zH (zn (y3 ?_)))
 have hcc:rqL.getD z3.toNat 0∈rqL:=by
  have: ∀k,k<7→rqL.getD k 0∈rqL:=by decide
  exact this _ (by omega)
 have hdm:DM false ⟨z2,rqL.getD z3.toNat 0,z4,x5,os8,x6⟩:=⟨⟨hz02,by simp only;omega⟩,by rw[if_neg (by simp)];exact hcc,⟨hz04,hz14⟩,⟨hx5,hx6⟩,hos8⟩
 refine AQ.retCell rfl rfl mM (by(dsimp only[List.set,cA,cN,List.take,List.drop];rfl)) rfl ⟨_,by repeat(first|exact List.Sublist.slnil|refine List.Sublist.cons_cons _ ?_|refine List.Sublist.cons _ ?_),List.Perm.refl _⟩ (⟨⟨_,hdm,rfl⟩,_,hkd8,rfl⟩)
end Go.Proofs.YtojomcdjcpmnkaaGreat.By
namespace Go.Proofs.YtojomcdjcpmnkaaGreat.By
open Go.RowKit L A
attribute [local irreducible] AW AQ AO
structure Bd where
 ctx:List UInt8
 kid:List UInt8
 piv:Int
abbrev cBd (b:Bd):List AV:= [roB b.ctx,roB b.kid,.val (.int .i64 b.piv)]
abbrev d0X (b:Bd):AV:= .agg (cBd b)
def Bd.none:Bd:=⟨[],[],0⟩
abbrev e0v (n:Int):Prop:=0≤n∧n≤1099511627775
theorem v0j (n:Int):(decide (0≤n)&&decide (n≤1099511627775))=decide (e0v n):=by
 rw[Bool.eq_iff_iff];simp
theorem v0w (n:Int):(decide (n<0)||decide (1099511627775<n))=decide (¬e0v n):=by
 rw[Bool.eq_iff_iff];simp only[Bool.or_eq_true,cQ];omega
theorem s0a (n:Int):Sp Tryz.prog 58 [.val (.int .i64 n)] [] (Is (.val (.bool (decide (e0v n))))):=by
 have e:=v0j n
 refine yH Tryz.func58 _ Tryz.ntmps58 (fun w0 R0=> ?_)
 refine zC (zq ?_)
 refine zc (zH (zn (zC (zq ?_))))
 refine zb ?_
 refine xR ?_
 refine zb ?_
 refine yl ?_
 refine xr 6 ?_
 refine zN ?_
 refine zc (zH (zn (y3 ?_)))
 refine vm rfl rfl nS (⟨congrArg (fun z=>AV.val (.bool z)) e,rfl⟩)
theorem i0Z (n:Int):Sp Tryz.prog 64 [.val (.int .i64 n)] [] (Is (.val (.bool (decide (¬e0v n))))):=by
 have e:=v0w n
 refine yH Tryz.func64 _ Tryz.ntmps64 (fun w0 R0=> ?_)
 refine zC (zq ?_)
 refine zc (zH (zn (zC (zq ?_))))
 refine zb ?_
 refine zR ?_
 refine zb ?_
 refine yl ?_
 refine yy 6 ?_
 refine zG ?_
 refine zc (zH (zn (y3 ?_)))
 refine vm rfl rfl nS (⟨congrArg (fun z=>AV.val (.bool z)) e,rfl⟩)
theorem p0g (n:Int):Sp Tryz.prog 91 [.val (.int .i64 n)] [] (Is (.val (.bool (decide (64≤n))))):=by
 refine yH Tryz.func91 _ Tryz.ntmps91 (fun w0 R0=> ?_)
 refine zC (zq ?_)
 refine zc (zH (zn (zC (zq ?_))))
 refine zb ?_
 refine xR ?_
 refine zc (zH (zn (y3 ?_)))
 refine yw
theorem k0d (a b:List UInt8):Sp Tryz.prog 92 [roB a,roB b] [] (Is (.val (.bool (a==b)))):=by
 refine yH Tryz.func92 _ Tryz.ntmps92 (fun w0 R0=> ?_)
 refine zC (zq ?_)
 refine zc (zH (zn (zC (zq ?_))))
 refine zb ?_
 refine vx ?_
 refine zb ?_
 refine vx ?_
 refine vO (O.eqlS rfl rfl rfl (by rfl)) ?_
 refine zc (zH (zn (y3 ?_)))
 refine vm rfl rfl nS (⟨by rw[a0L,a0L],rfl⟩)
def b0z (c:Cx)(b:Bd)(id:List UInt8)(piv:Int):List UInt8:=if piv= -1 then(b0U c.com b.kid b.piv).1 else(b0U c.com id piv).1
theorem l0z (c:Cx)(b:Bd)(id:List UInt8)(piv:Int)(hcl:c.com.length≤1000000):Sp Tryz.prog 131 [.val (.int .i64 piv),.rp (cX c) 0,.rp (cBd b) 0,.rp [roB id] 0] [] (Is (roB (b0z c b id piv))):=by
 refine yH Tryz.func131 _ Tryz.ntmps131 (fun w0 R0=> ?_)
 refine zC (zq ?_)
 refine zc (zH (zn (zC (zC (zq ?_)))))
 refine zb ?_
 refine yi (zH (zn ?_))
 refine ym (fun h=> ?_) (fun h=> ?_)<;>(try simp only[vU]at h)
 ·rw[show b0z c b id piv=(b0U c.com b.kid b.piv).1 from if_pos h]
  refine zC (zq ?_)
  refine vO (O.fieldAddrR rfl rfl) ?_
  refine vO (O.loadR rfl rfl (by rfl)) ?_
  refine vO (O.fieldAddrR rfl rfl) ?_
  refine vO (O.loadR rfl rfl (by rfl)) ?_
  refine vO (O.fieldAddrR rfl rfl) ?_
  refine vO (O.loadR rfl rfl (by rfl)) ?_
  refine vO (xD rfl Tryz.func59 rfl rfl rfl (k0g _ _ _ hcl)) ?_
  refine zb ?_
  refine zW ?_
  refine zW ?_
  refine zc ?_
  refine zc (zH (zn (zC (zq ?_))))
  refine zb ?_
  refine zc (zH (zn (y3 (xh ?_))))
  refine yw
 rw[show b0z c b id piv=(b0U c.com id piv).1 from if_neg h]
 refine yU (zn (zC (zq ?_)))
 refine vO (O.fieldAddrR rfl rfl) ?_
 refine vO (O.loadR rfl rfl (by rfl)) ?_
 refine vO (O.loadR rfl rfl (by rfl)) ?_
 refine zb ?_
 refine vO (xD rfl Tryz.func59 rfl rfl rfl (k0g _ _ _ hcl)) ?_
 refine zb ?_
 refine zW ?_
 refine zW ?_
 refine zc ?_
 refine zc (zH (zn (zC (zq ?_))))
 refine zb ?_
 refine zc (zH (zn (y3 ?_)))
 refine yw
theorem n0P (c:Cx)(b:Bd)(id:List UInt8):Sp Tryz.prog 78 [h0w c,d0X b,roB id] [] (Is (.fn (.func 131) [.rp (cX c) 0,.rp (cBd b) 0,.rp [roB id] 0])):=by
 refine yH Tryz.func78 _ Tryz.ntmps78 (fun w0 R0=> ?_)
 refine zC (zq ?_)
 refine z9 ?_
 intro B1
 refine z9 ?_
 intro B2
 refine z9 ?_
 intro B3
 refine zc (zH (zn (zC (zq ?_))))
 refine AO.g ?_
 refine G.freezePtr 2 3 rfl rfl ?_
 refine AO.u ?_
 dsimp only[List.eraseIdx]
 refine AO.g ?_
 refine G.freezePtr 1 4 rfl rfl ?_
 refine AO.u ?_
 dsimp only[List.eraseIdx]
 refine AO.g ?_
 refine G.freezePtr 0 5 rfl rfl ?_
 refine AO.u ?_
 dsimp only[List.eraseIdx]
 refine vO (O.fn rfl rfl) ?_
 refine zc (zH (zn (y3 ?_)))
 refine yw
def a0R (m:Msg):Cmp×Int:=match c0a m.opts 9 with
 | []=>(.zero,10)
 | [v]=>n0J v
 |_=>(.zero,7)
theorem m0C {m:Msg}(h:(c0a m.opts 9).length=0):a0R m=(.zero,10):=by
 unfold a0R;rw[List.eq_nil_of_length_eq_zero h]
theorem m0B {m:Msg}(h:(c0a m.opts 9).length=1):a0R m=n0J (vat (c0a m.opts 9) 0):=by
 unfold a0R
 generalize c0a m.opts 9=l at*
 match l,h with
 | [v],_=>rfl
theorem m0A {m:Msg}(h0:(c0a m.opts 9).length≠0)(h1:(c0a m.opts 9).length≠1):a0R m=(.zero,7):=by
 unfold a0R
 generalize c0a m.opts 9=l at*
 match l,h0,h1 with
 |x::y::l,_,_=>rfl
abbrev SmO (m:Msg):Prop:=m.opts.length≤1000000∧ ∀o∈m.opts,o.val.length≤140737488355328
theorem o0E (m:Msg)(h:SmO m):Sp Tryz.prog 22 [b0n m] [] (Is (t0u (a0R m))):=by
 refine yH Tryz.func22 _ Tryz.ntmps22 (fun w0 R0=> ?_)
 refine zC (zq ?_)
 refine z9 ?_
 intro B1
 refine zd ?_
 intro B2
 refine zc (zH (zn (zC (zq ?_))))
 refine zw ?_
 refine vO (xD rfl Tryz.func71 rfl rfl rfl (q0L _ _ h.1 h.2)) ?_
 refine zc (zH (zn (zC (xb (zC (zq ?_))))))
 refine zb ?_
 refine zZ ?_
 refine yi ?_
 refine zc (zH (zn ?_))
 refine ym (fun h0=> ?_) (fun h0=> ?_)<;>(try simp only[vU]at h0)
 ·rw[m0C (by omega)]
  refine zC (zq ?_)
  refine zM ?_
  refine za 0 ?_
  refine zc (zH (zn (y3 ?_)))
  refine wg (xh ?_)
  refine x9 zP zk (⟨rfl,rfl⟩)
 refine zC (zq ?_)
 refine zb ?_
 refine zZ ?_
 refine yN ?_
 refine zc (zH (zn ?_))
 refine ym (fun h1=> ?_) (fun h1=> ?_)<;>(try simp only[vU]at h1)
 ·rw[m0A (by omega) (by omega)]
  refine zC (zq ?_)
  refine zM ?_
  refine za 0 ?_
  refine zc (zH (zn (y3 ?_)))
  refine wg (xh ?_)
  refine x9 zP zk (⟨rfl,rfl⟩)
 rw[m0B (by omega)]
 refine yU (xA (zn (zC (zq ?_))))
 refine zb ?_
 refine yf ?_
 refine vO (O.loadR rfl rfl (by exact f0Q (k:=0) (by omega) rfl)) ?_
 refine vO (xD rfl Tryz.func72 rfl rfl rfl (i0Y _)) ?_
 refine zW ?_
 refine zW ?_
 refine za 0 ?_
 refine zc (zH (zn (y3 ?_)))
 refine AQ.retCT rfl rfl rfl (by repeat(exact List.Mem.head _)) (by rfl) rfl nS (⟨rfl,rfl⟩)
theorem o0c (os:List Opt)(n:Int)(k:Nat):(c0a (os.take k) n).length≤k:=Nat.le_trans (d0W _ _) (by rw[List.length_take];omega)
theorem p0h (m:Msg)(h:SmO m):Sp Tryz.prog 21 [b0n m] [] (Is (t0u (a0R m))):=by
 obtain⟨h3,hat⟩:=h
 refine yH Tryz.func21 _ Tryz.ntmps21 (fun w0 R0=> ?_)
 refine zC (zq ?_)
 refine z9 ?_
 intro B1
 refine zd ?_
 intro B2
 refine zc (zH (zn (zC (zq ?_))))
 refine zc (zH (zn (zC (zC (zq ?_)))))
 refine zt ?_
 refine zp ?_
 refine zZ ?_
 refine zb (zH (zn (xb ?_)))
 refine AW.g ?_
 refine G.nilRow 22 1 ?_
 refine AW.u ?_
 refine zh [(2,_),(8,_),(9,_)] (fun nn E H=> ∃(k:Nat) (V:Value),(k≤m.opts.length)∧(V.oneCell'=true)∧nn=m.opts.length-k∧E= [(4,.val V),(10,.val (.int .i64 (k:Int)))]∧H= [.row V 22 1 (c0a (m.opts.take k) 9).length (bsA (c0a (m.opts.take k) 9)),.blk B2 52 6 [.val (.int .i64 0),.val (.bool false),.val (.slice none 0 0),.val (.bool false),.val (.slice none 0 0),.val (.bool false)],.blk B1 29 6 [.val (.int .i64 m.ty),.val (.int .i64 m.code),.val (.int .i64 m.id),roB m.tok,roO m.opts,roB m.pay]]) _ (⟨0,_,by omega,rfl,rfl,rfl,rfl⟩) ?_
 rintro nn E H ⟨k,V,h4,hV,rfl,rfl,rfl⟩
 dsimp only[cA,cN]
 have hl:=o0c m.opts 9 k
 refine zC (zq ?_)
 refine zR (zH (zn (zC ?_)))
 refine ym (fun h5=> ?_) (fun h5=> ?_)<;>(try simp only[vU]at h5)
 ·have hk:k<m.opts.length:=by omega
  have hsc:=f0V (m.opts.take k) (oat m.opts k) 9
  rw[←a0i Opt.none hk]at hsc
  refine yU (zn (zC (xb (zC (zq ?_)))))
  refine yf ?_
  refine yV ?_
  refine zd ?_
  intro B3
  refine za 0 (zH (zn (zC (zq ?_))))
  refine zt ?_
  refine zA ?_
  refine yi (zH (zn ?_))
  refine ym (fun h6=> ?_) (fun h6=> ?_)<;>(try simp only[vU]at h6)
  ·rw[if_pos h6]at hsc
   refine zq ?_
   refine zb ?_
   refine zt ?_
   refine zA ?_
   refine zU ?_
   intro B4
   refine AO.g ?_
   refine yr 0 20 ?_
   refine wH 20 ?_
   refine AO.u ?_
   dsimp only[List.eraseIdx]
   refine zB 1 ?_
   intro V5 hV5
   refine zc (zH (xA (zn (zq ?_))))
   refine zx ?_
   refine zb (zH ?_)
   refine zJ _ _ _ (by omega) (⟨k+1,_,by omega,‹_›,rfl,rfl,by rw[hsc,f0a,cH]⟩)
  rw[if_neg h6]at hsc
  refine yU (xA (zn (zq ?_)))
  refine zx ?_
  refine zb (zH ?_)
  refine zJ _ _ _ (by omega) (⟨k+1,V,by omega,hV,rfl,rfl,by rw[hsc]⟩)
 obtain rfl:k=m.opts.length:=by omega
 rw[List.take_length]at*
 refine AW.g ?_
 refine yj 0 [4] ?_
 refine AW.u ?_
 try dsimp only[List.map,List.eraseIdx,cA,cN]
 refine wm ?_
 refine xY ?_
 refine wa ?_
 refine xq (zn (zC (zC (zq ?_))))
 refine zb ?_
 refine zZ (zH (zn (xb (zC (zq ?_)))))
 refine yi ?_
 refine zc (zH (zn ?_))
 refine ym (fun h0=> ?_) (fun h0=> ?_)<;>(try simp only[vU]at h0)
 ·rw[m0C (by omega)]
  refine zC (zq ?_)
  refine zM ?_
  refine za 0 ?_
  refine zc (zH (zn (y3 ?_)))
  refine wg (xh ?_)
  refine x9 zP zk (⟨rfl,rfl⟩)
 refine zC (zq ?_)
 refine yi ?_
 refine zc (zH (zn ?_))
 refine ym (fun h1=> ?_) (fun h1=> ?_)<;>(try simp only[vU]at h1)
 ·rw[m0B (by omega)]
  refine zC (zq ?_)
  refine zb ?_
  refine yf ?_
  refine vO (O.loadR rfl rfl (by exact f0Q (k:=0) (by omega) rfl)) ?_
  refine vO (xD rfl Tryz.func70 rfl rfl rfl (l0B _)) ?_
  refine zW ?_
  refine zW ?_
  refine za 0 ?_
  refine zc (zH (zn (y3 ?_)))
  refine wg (xh ?_)
  refine AQ.retCT rfl rfl rfl (by repeat(exact List.Mem.head _)) (by rfl) rfl nS (⟨rfl,rfl⟩)
 rw[m0A (by omega) (by omega)]
 refine yU (xA (zn (zC (zq ?_))))
 refine zM ?_
 refine za 0 ?_
 refine zc (zH (zn (y3 ?_)))
 refine x9 zP zk (⟨rfl,rfl⟩)
set_option maxHeartbeats 8000000 in
theorem m0r (m:Msg):Sp Tryz.prog 65 [b0n m] [] (Is (v0M (a0Q m))):=by
 have bT: ∀{b:Bool},b=true→rq m.code=b→True:=fun _ _=>trivial
 refine yH Tryz.func65 _ Tryz.ntmps65 (fun w0 R0=> ?_)
 refine zC (zq ?_)
 refine z9 ?_
 intro B1
 refine zd ?_
 intro B2
 refine zd ?_
 intro B3
 refine zc (zH (zn (zC (zC (zq ?_)))))
 refine zt ?_
 refine zp ?_
 refine vO (xD rfl Tryz.func63 rfl rfl rfl (b0M m.code)) ?_
 refine xo ?_
 refine zb ?_
 refine zK ?_
 refine zT 20 ?_
 refine AO.opG rfl rfl rfl (fun hp=>wP 21 rfl (by exact hp) (xD rfl Tryz.func83 rfl rfl rfl (b0G m.code))) ?_
 refine xf 22 ?_
 refine zN (zH (zn ?_))
 refine ym (fun h=> ?_) (fun h=> ?_)<;>(try simp only[vU]at h)
 ·have e:a0Q m=(Msg.none,Msg.none,1):=if_neg (by
   rintro⟨hv,hc⟩
   simp[h.1,h.2]at hc)
  refine zC (zq ?_)
  refine zM ?_
  refine zM ?_
  refine za 1 ?_
  refine za 0 ?_
  refine zc (zH (zn (y3 (xh ?_))))
  refine x9 xt zk (i0S e)
 have hc:rq m.code=true∨rs m.code=true:=by cases hq:rq m.code<;>simp_all
 refine yU (zn (zC (zC (zq ?_))))
 refine zw ?_
 refine vO (xD rfl Tryz.func120 rfl rfl rfl (i0T m)) ?_
 refine zb ?_
 refine zW ?_
 refine zW ?_
 refine zc ?_
 refine zc (zH (zn (zC (zq ?_))))
 refine zb ?_
 refine y8 (zH (zn ?_))
 refine ym (fun hx=> ?_) (fun hx=> ?_)<;>(try simp only[vU]at hx)
 ·have e:a0Q m=(Msg.none,Msg.none,1):=if_neg (fun hv=>by rw[n0B hv.1]at hx;exact hx rfl)
  refine zC (zq ?_)
  refine zM ?_
  refine zM ?_
  refine za 1 ?_
  refine za 0 ?_
  refine zc (zH (zn (y3 (xh ?_))))
  refine x9 xt zk (i0S e)
 have hv:ValM m:=Classical.byContradiction fun hv=>by rw[n0C hv]at hx;cases hx
 obtain⟨s1,s2,s3,s4⟩:=hv.sm
 refine yU (zn (zC ?_))
 refine yo 7 ?_
 simp only[cT,cZ,cD,cO]
 refine yn ?_
 refine zO ?_
 refine yn ?_
 refine zO ?_
 refine vP (xD rfl Tryz.func69 rfl rfl rfl (a0o _ (by omega))) ?_
 refine xN ?_
 refine yS ?_
 refine vf ?_
 simp only[a0g,cN,cA,cP]
 rintro _ _ ⟨B4,rfl,rfl⟩
 simp only[cA,cN]
 refine za 0 (zH (zn (zC ?_)))
 refine yo 9 ?_
 simp only[cT,cZ,cD,cO]
 refine yn ?_
 refine zO ?_
 refine yn ?_
 refine zO ?_
 refine yn ?_
 refine zO ?_
 refine vP (xD rfl Tryz.func69 rfl rfl rfl (a0o _ (by omega))) ?_
 refine xN ?_
 refine yS ?_
 refine vf ?_
 simp only[a0g,cN,cA,cP]
 rintro _ _ ⟨B5,rfl,rfl⟩
 simp only[cA,cN]
 refine za 0 (zH (zn (zC (zq ?_))))
 refine zc ?_
 refine zc (zH (zn (zC (zC (zq ?_)))))
 refine zt ?_
 refine zp ?_
 refine zZ ?_
 refine zb (zH (zn (xb ?_)))
 refine AW.g ?_
 refine G.nilRow 96 2 ?_
 refine AW.u ?_
 refine AW.g ?_
 refine G.nilRow 96 2 ?_
 refine AW.u ?_
 refine xZ [(1,_),(2,_),(3,_),(7,_),(8,_),(51,_),(52,_)] (fun nn E H=> ∃(k:Nat) (V V':Value),(k≤m.opts.length)∧(V.oneCell'=true)∧(V'.oneCell'=true)∧nn=m.opts.length-k∧E= [(9,.val (.bool (e0x (m.opts.take k)))),(10,.val (.bool (q0J (m.opts.take k)))),(53,.val (.int .i64 (k:Int)))]∧H= [.row V 96 2 (inL m.code (m.opts.take k)).length (a0C (inL m.code (m.opts.take k))),.row V' 96 2 (h0Z (m.opts.take k)).length (a0C (h0Z (m.opts.take k))),.blk B4 29 6 [.val (.int .i64 0),.val (.int .i64 m.code),.val (.int .i64 0),.val (.slice none 0 0),.val V,roB m.pay],.blk B5 29 6 [.val (.int .i64 m.ty),.val (.int .i64 0),.val (.int .i64 m.id),roB m.tok,.val V',.val (.slice none 0 0)],.blk B3 29 6 [.val (.int .i64 0),.val (.int .i64 0),.val (.int .i64 0),.val (.slice none 0 0),.val (.slice none 0 0),.val (.slice none 0 0)],.blk B2 29 6 [.val (.int .i64 0),.val (.int .i64 0),.val (.int .i64 0),.val (.slice none 0 0),.val (.slice none 0 0),.val (.slice none 0 0)],.blk B1 29 6 [.val (.int .i64 m.ty),.val (.int .i64 m.code),.val (.int .i64 m.id),roB m.tok,roO m.opts,roB m.pay]]) _ (⟨0,_,_,by omega,rfl,rfl,rfl,rfl,rfl⟩) ?_
 rintro nn E H ⟨k,V,V',hk,hV,hV',rfl,rfl,rfl⟩
 dsimp only[cA,cN]
 have hl1:=s0p m.code (m.opts.take k)
 have hl2:=k0c (m.opts.take k)
 rw[List.length_take]at hl1 hl2
 refine zC (zq ?_)
 refine zR (zH (zn (zC ?_)))
 refine ym (fun h2=> ?_) (fun h2=> ?_)<;>(try simp only[vU]at h2)
 ·have hkk:k<m.opts.length:=by omega
  have hv4:(oat m.opts k).val.length≤140737488355328:=by have:=s4 k hkk;omega
  have hci:=u0h (oat m.opts k).num
  refine yU (zn (zC (xb (zC (zq ?_)))))
  refine yf ?_
  refine yV ?_
  refine zd ?_
  intro B6
  refine za 0 (zH (zn (zC (zq ?_))))
  refine zt ?_
  refine zA ?_
  refine vO (xD rfl Tryz.func121 rfl rfl rfl (f0q _)) ?_
  refine zc (zH (zn (zC (zq ?_))))
  refine zb ?_
  refine zb ?_
  refine zK ?_
  refine zu 62 ?_
  refine xe 63 ?_
  refine zG ?_
  refine zb ?_
  refine zK ?_
  refine zu 67 ?_
  refine xe 68 ?_
  refine zG ?_
  refine zc (zH (zn (zC (zC (zq ?_)))))
  refine zb ?_
  refine y8 (zH (zn ?_))
  have hb':q0J (m.opts.take (k+1))=(q0J (m.opts.take k)||decide ((oat m.opts k).num=9)||decide ((oat m.opts k).num=35)):=by rw[a0i Opt.none hkk,n0W,Bool.or_assoc];congr 1;exact Bool.decide_or _ _
  have hw':e0x (m.opts.take (k+1))=(e0x (m.opts.take k)||decide ((oat m.opts k).num=6)):=by rw[a0i Opt.none hkk,i0J]
  have hin:=p0x m.code (m.opts.take k) (oat m.opts k)
  have hou:=m0T (m.opts.take k) (oat m.opts k)
  rw[←a0i Opt.none hkk]at hin hou
  refine wc [(1,_),(2,_),(3,_),(7,_),(8,_),(9,_),(10,_),(12,_),(13,_),(51,_),(52,_),(53,_)] (fun E H=> ∃(W:Value),(W.oneCell'=true)∧E= []∧H= [.blk B6 96 2 [.val (.int .i64 (oat m.opts k).num),roB (oat m.opts k).val],.row W 96 2 (inL m.code (m.opts.take (k+1))).length (a0C (inL m.code (m.opts.take (k+1)))),.row V' 96 2 (h0Z (m.opts.take k)).length (a0C (h0Z (m.opts.take k))),.blk B4 29 6 [.val (.int .i64 0),.val (.int .i64 m.code),.val (.int .i64 0),.val (.slice none 0 0),.val W,roB m.pay],.blk B5 29 6 [.val (.int .i64 m.ty),.val (.int .i64 0),.val (.int .i64 m.id),roB m.tok,.val V',.val (.slice none 0 0)],.blk B3 29 6 [.val (.int .i64 0),.val (.int .i64 0),.val (.int .i64 0),.val (.slice none 0 0),.val (.slice none 0 0),.val (.slice none 0 0)],.blk B2 29 6 [.val (.int .i64 0),.val (.int .i64 0),.val (.int .i64 0),.val (.slice none 0 0),.val (.slice none 0 0),.val (.slice none 0 0)],.blk B1 29 6 [.val (.int .i64 m.ty),.val (.int .i64 m.code),.val (.int .i64 m.id),roB m.tok,roO m.opts,roB m.pay]]) (fun h71=> ?_) (fun h71=> ?_) ?_<;>try(try simp only[vU]at h71)
  ·rw[if_pos (by omega)]at hin
   refine zC (zq ?_)
   refine zt ?_
   refine zA ?_
   refine vO (xD rfl Tryz.func69 rfl rfl rfl (a0o _ (by assumption))) ?_
   refine zc (zH (zn (zC (zC (zq ?_)))))
   refine zt ?_
   refine zA ?_
   refine yi ?_
   refine zb ?_
   refine zK ?_
   refine zT 80 ?_
   refine AO.opG rfl rfl rfl (fun hp=>wP 81 rfl (by exact hp) (xD rfl Tryz.func83 rfl rfl rfl (b0G m.code))) ?_
   refine zN (zH (zn ?_))
   refine ym (fun h81=> ?_) (fun h81=> ?_)<;>(try simp only[vU]at h81)
   ·have hi2:inO m.code (oat m.opts k)=⟨(oat m.opts k).num,[]⟩:=if_pos h81
    rw[hi2]at hin
    refine zq ?_
    refine zc (zH (zn (zq ?_)))
    refine zt ?_
    refine zp ?_
    refine zt ?_
    refine zA ?_
    refine zb ?_
    refine zM ?_
    refine zU ?_
    intro B7
    refine AO.g ?_
    refine yr 0 90 ?_
    refine wH 90 ?_
    refine AO.u ?_
    dsimp only[List.eraseIdx]
    refine zB 1 ?_
    intro V8 hV8
    refine zt ?_
    refine y2 3 (zH ?_)
    refine AQ.g ?_
    refine G.coeRow 1 _ (a0C (inL m.code (m.opts.take k))++[.val (.int .i64 (oat m.opts k).num),roB []]) rfl rfl (CoeL.app CoeL.refl (CoeL.cons Coe.rfl (CoeL.cons Coe.nil CoeL.nil))) ?_
    refine AQ.u ?_
    refine xI _ _ (⟨_,‹_›,rfl,by rw[hin,a0M,cH]⟩)
   have hi2:inO m.code (oat m.opts k)=oat m.opts k:=if_neg (fun hh=>by have:=h81 hh.1;rw[hh.2]at this;cases this)
   rw[hi2]at hin
   refine yU (zn (zq ?_))
   refine zt ?_
   refine zp ?_
   refine zt ?_
   refine zA ?_
   refine zb ?_
   refine zM ?_
   refine zU ?_
   intro B9
   refine AO.g ?_
   refine yr 0 90 ?_
   refine wH 90 ?_
   refine AO.u ?_
   dsimp only[List.eraseIdx]
   refine zB 1 ?_
   intro V10 hV10
   refine zt ?_
   refine y2 3 (zH ?_)
   refine xI _ _ (⟨_,‹_›,rfl,by rw[hin,a0M,cH]⟩)
  ·rw[if_neg (by omega)]at hin
   refine yU ?_
   refine xI _ _ (⟨V,hV,rfl,by rw[hin]⟩)
  rintro E1 H1 ⟨W,hW,rfl,rfl⟩
  dsimp only[cA,cN]
  refine zn (zC (zC (zq ?_)))
  refine zb ?_
  refine yi ?_
  refine zb ?_
  refine zK ?_
  refine zu 96 ?_
  refine xe 97 ?_
  refine zG (zH (zn ?_))
  refine wc [(1,_),(2,_),(3,_),(7,_),(8,_),(9,_),(10,_),(12,_),(51,_),(52,_),(53,_)] (fun E H=> ∃(W':Value),(W'.oneCell'=true)∧E= []∧H= [.blk B6 96 2 [.val (.int .i64 (oat m.opts k).num),roB (oat m.opts k).val],.row W 96 2 (inL m.code (m.opts.take (k+1))).length (a0C (inL m.code (m.opts.take (k+1)))),.row W' 96 2 (h0Z (m.opts.take (k+1))).length (a0C (h0Z (m.opts.take (k+1)))),.blk B4 29 6 [.val (.int .i64 0),.val (.int .i64 m.code),.val (.int .i64 0),.val (.slice none 0 0),.val W,roB m.pay],.blk B5 29 6 [.val (.int .i64 m.ty),.val (.int .i64 0),.val (.int .i64 m.id),roB m.tok,.val W',.val (.slice none 0 0)],.blk B3 29 6 [.val (.int .i64 0),.val (.int .i64 0),.val (.int .i64 0),.val (.slice none 0 0),.val (.slice none 0 0),.val (.slice none 0 0)],.blk B2 29 6 [.val (.int .i64 0),.val (.int .i64 0),.val (.int .i64 0),.val (.slice none 0 0),.val (.slice none 0 0),.val (.slice none 0 0)],.blk B1 29 6 [.val (.int .i64 m.ty),.val (.int .i64 m.code),.val (.int .i64 m.id),roB m.tok,roO m.opts,roB m.pay]]) (fun h95=> ?_) (fun h95=> ?_) ?_<;>try(try simp only[vU]at h95)
  ·rw[if_pos h95]at hou
   refine yo 9 ?_
   simp only[cT,cZ,cD,cO]
   refine yn ?_
   refine zO ?_
   refine yn ?_
   refine yM ?_
   refine yn ?_
   refine yM ?_
   refine vP (xD rfl Tryz.func69 rfl rfl rfl (a0o _ (by assumption))) ?_
   refine xN ?_
   refine vP y6 ?_
   refine vf ?_
   simp only[a0g,cN,cA,cP]
   refine zB 2 ?_
   intro V11 hV11
   refine zt ?_
   refine y2 4 (zH ?_)
   refine xI _ _ (⟨_,‹_›,rfl,by rw[hou,a0M,cH]⟩)
  ·rw[if_neg (by omega)]at hou
   refine yU ?_
   refine xI _ _ (⟨V',hV',rfl,by rw[hou]⟩)
  rintro E1 H1 ⟨W',hW',rfl,rfl⟩
  dsimp only[cA,cN]
  refine zn (zq ?_)
  refine zb ?_
  refine zb ?_
  refine zK ?_
  refine zu 113 ?_
  refine xe 114 ?_
  refine zG ?_
  refine zc (zH (xA (zn (zq ?_))))
  refine zx ?_
  refine zb (zH ?_)
  refine zJ _ _ _ (by omega) (⟨k+1,W,W',by omega,hW,hW',rfl,by rw[hw',hb'],rfl⟩)
 obtain rfl:k=m.opts.length:=by omega
 rw[List.take_length]at hl1 hl2⊢
 refine wm ?_
 refine xY ?_
 refine wa ?_
 refine xq (zn (zC (zC (zq ?_))))
 refine zb (zH (zn ?_))
 refine ym (fun hb=> ?_) (fun hb=> ?_)<;>(try simp only[vU]at hb)
 ·have e:a0Q m=(Msg.none,Msg.none,15):=by rw[a0Q,if_pos ⟨hv,hc⟩,if_pos hb]
  refine zC (zq ?_)
  refine zM ?_
  refine zM ?_
  refine za 5 ?_
  refine za 4 ?_
  refine zc (zH (zn (y3 (xh ?_))))
  refine x9 xj zk (i0S e)
 have hnb: ¬q0J m.opts=true:=by rw[hb];simp
 have e0:a0Q m=(inM m,s0U m,0):=by rw[a0Q,if_pos ⟨hv,hc⟩,if_neg hnb]
 refine AW.g ?_
 refine G.freezeCell 0 1 4 rfl rfl rfl ?_
 refine AW.u ?_
 refine AW.g ?_
 refine G.freezeCell 0 1 4 rfl rfl rfl ?_
 refine AW.u (yU (zn (zC (xb (zC (zq ?_))))))
 refine zt ?_
 refine zp ?_
 refine vO (xD rfl Tryz.func63 rfl rfl rfl (b0M m.code)) ?_
 refine zb ?_
 refine yl ?_
 refine zN ?_
 refine zc (zH (zn ?_))
 refine ym (fun ha=> ?_) (fun ha=> ?_)<;>(try simp only[vU]at ha)
 ·have e1:p0f m=5:=by rw[p0f,if_pos ha.1,if_pos ha.2]
  have e:a0Q m=(inM m,⟨m.ty,5,m.id,m.tok,h0Z m.opts,[]⟩,0):=by rw[e0,s0U,e1]
  refine zq ?_
  refine zt ?_
  refine za 1 (zH (xA (zn (zC ?_))))
  refine AW.regionM [(0,false),(1,false),(2,true),(3,true),(4,false)] (by kernel_rfl) (by kernel_rfl) (by exact(by exact a0h 2 3 rfl rfl (by exact a0h 3 2 rfl rfl a0c))) ?_
  dsimp only[List.eraseIdx]
  refine yR ?_
  refine zV ?_
  refine xU _ (fun w0 R0=> ?_)
  refine za 0 (AM.okN ?_)
  dsimp only[a0w]
  refine xU _ (fun w0 R0=> ?_)
  refine za 1 (AM.okN ?_)
  dsimp only[a0w]
  refine we ?_
  refine vn ?_
  dsimp only[cA,cN]
  refine zn (y3 ?_)
  refine x9 zQ zk (i0S e)
 refine zC (zq ?_)
 refine zt ?_
 refine zp ?_
 refine vO (xD rfl Tryz.func63 rfl rfl rfl (b0M m.code)) ?_
 refine zc (zH (zn ?_))
 refine ym (fun hd=> ?_) (fun hd=> ?_)<;>(try simp only[vU]at hd)
 ·have e1:p0f m=2:=by rw[p0f,if_pos hd,if_neg (by rw[ha hd];simp)]
  have e:a0Q m=(inM m,⟨m.ty,2,m.id,m.tok,h0Z m.opts,[]⟩,0):=by rw[e0,s0U,e1]
  refine zq ?_
  refine zt ?_
  refine za 1 (zH (xA (zn (zC ?_))))
  refine AW.regionM [(0,false),(1,false),(2,true),(3,true),(4,false)] (by kernel_rfl) (by kernel_rfl) (by exact(by exact a0h 2 3 rfl rfl (by exact a0h 3 2 rfl rfl a0c))) ?_
  dsimp only[List.eraseIdx]
  refine yR ?_
  refine zV ?_
  refine xU _ (fun w0 R0=> ?_)
  refine za 0 (AM.okN ?_)
  dsimp only[a0w]
  refine xU _ (fun w0 R0=> ?_)
  refine za 1 (AM.okN ?_)
  dsimp only[a0w]
  refine we ?_
  refine vn ?_
  dsimp only[cA,cN]
  refine zn (y3 ?_)
  refine x9 zQ zk (i0S e)
 refine zC (zq ?_)
 refine zb ?_
 refine zc (zH (zn ?_))
 refine ym (fun hf=> ?_) (fun hf=> ?_)<;>(try simp only[vU]at hf)
 ·have e1:p0f m=69:=by rw[p0f,if_neg (by rw[hd];simp),if_pos hf]
  have e:a0Q m=(inM m,⟨m.ty,69,m.id,m.tok,h0Z m.opts,[]⟩,0):=by rw[e0,s0U,e1]
  refine zq ?_
  refine zt ?_
  refine za 1 (zH (xA (zn (zC ?_))))
  refine AW.regionM [(0,false),(1,false),(2,true),(3,true),(4,false)] (by kernel_rfl) (by kernel_rfl) (by exact(by exact a0h 2 3 rfl rfl (by exact a0h 3 2 rfl rfl a0c))) ?_
  dsimp only[List.eraseIdx]
  refine yR ?_
  refine zV ?_
  refine xU _ (fun w0 R0=> ?_)
  refine za 0 (AM.okN ?_)
  dsimp only[a0w]
  refine xU _ (fun w0 R0=> ?_)
  refine za 1 (AM.okN ?_)
  dsimp only[a0w]
  refine we ?_
  refine vn ?_
  dsimp only[cA,cN]
  refine zn (y3 ?_)
  refine x9 zQ zk (i0S e)
 have e1:p0f m=68:=by rw[p0f,if_neg (by rw[hd];simp),if_neg (by rw[hf];simp)]
 have e:a0Q m=(inM m,⟨m.ty,68,m.id,m.tok,h0Z m.opts,[]⟩,0):=by rw[e0,s0U,e1]
 refine zq ?_
 refine zt ?_
 refine za 1 (zH (xA (zn (zC ?_))))
 refine AW.regionM [(0,false),(1,false),(2,true),(3,true),(4,false)] (by kernel_rfl) (by kernel_rfl) (by exact(by exact a0h 2 3 rfl rfl (by exact a0h 3 2 rfl rfl a0c))) ?_
 dsimp only[List.eraseIdx]
 refine yR ?_
 refine zV ?_
 refine xU _ (fun w0 R0=> ?_)
 refine za 0 (AM.okN ?_)
 dsimp only[a0w]
 refine xU _ (fun w0 R0=> ?_)
 refine za 1 (AM.okN ?_)
 dsimp only[a0w]
 refine we ?_
 refine vn ?_
 dsimp only[cA,cN]
 refine zn (y3 ?_)
 refine x9 zQ zk (i0S e)
end Go.Proofs.YtojomcdjcpmnkaaGreat.By
namespace Go.Proofs.YtojomcdjcpmnkaaGreat.By
open Go.RowKit L A Dk
attribute [local irreducible] AW AQ AO
abbrev prs (b:Nat)(r:List UInt8)(bad:Bool):HE:= .blk b 204 2 [roB r,.val (.bool bad)]
theorem p0J (x y:List UInt8):Sp Tryz.prog 172 [roB x,roB y] [] (Is (.val (.bool (decide (x=y))))):=by
 refine yH Tryz.func172 _ Tryz.ntmps172 (fun w0 R0=> ?_)
 refine zC (zq ?_)
 refine zc (zH (zn (zC (zq ?_))))
 refine zb ?_
 refine vx ?_
 refine zb ?_
 refine vx ?_
 refine vO (O.eqlS rfl rfl rfl (by rfl)) ?_
 refine zc (zH (zn (y3 ?_)))
 have e:decide (x=y)=(x==y):=g0K (by simp)
 refine vm rfl rfl nS (⟨by rw[a0L,a0L,e],rfl⟩)
theorem l0I (n:Nat):a0t n (.int .u8 0)=a0a (List.replicate n 0):=by
 rw[a0t,show(Value.int IntKind.u8 0).cells.toList.map AV.val= [AV.val (.int .u8 0)]from rfl,List.flatten_replicate_singleton]
 simp[a0a]
theorem v0N {b:Nat}{p q:List UInt8×List UInt8×Bool}(h:q=p){v:AV}(hv:v=roB p.1):IsM (roB q.1) (prs b q.2.1 q.2.2) v [prs b p.2.1 p.2.2]:=by subst h;exact⟨hv,rfl⟩
theorem i0N (b:Nat)(r:List UInt8)(bad:Bool)(n:Int)(hn:0≤n∧n≤1000000):
  Sp Tryz.prog 189 [ptr b,.val (.int .i64 n)] [prs b r bad] (IsM (roB (a0V r bad n).1) (prs b (a0V r bad n).2.1 (a0V r bad n).2.2)):=by
 obtain⟨k,rfl⟩: ∃k:Nat,n=(k:Int):=⟨n.toNat,by omega⟩
 have hmin:(if(4:Int)<(k:Int)then 4 else(k:Int))=((min k 4:Nat):Int):=by split<;>omega
 refine yH Tryz.func189 _ Tryz.ntmps189 (fun w0 R0=> ?_)
 refine zC (zq ?_)
 refine zc (zH (zn (zC (zC (zq ?_)))))
 refine zb ?_
 refine zb ?_
 refine vB ?_
 refine zt ?_
 refine zA ?_
 refine zZ ?_
 refine yN (zH (zn ?_))
 refine ym (fun h=> ?_) (fun h=> ?_)<;>(try simp only[vU]at h)
 ·have e:a0V r bad k=(List.replicate (min k 4) 0,r,true):=by
   rw[a0V,if_pos h,show(min (k:Int) 4).toNat=min k 4 by omega]
  refine zC (zq ?_)
  refine zb ?_
  refine vB ?_
  refine zt ?_
  refine za 0 (zH (zn (zC (zq ?_))))
  refine zb ?_
  refine vO (O.minI rfl rfl rfl rfl) ?_
  refine AO.opB (O.makeSlice rfl rfl rfl (by assumption) (by assumption) (by omega) (by(unfold maxLen;omega)) (by rfl)) rfl rfl rfl ?_
  intro B1
  refine zc (zH (zn (y3 (xh ?_))))
  refine AQ.g ?_
  refine yr 0 4 ?_
  refine AQ.u ?_
  refine AQ.g ?_
  refine wH 4 ?_
  refine AQ.u ?_
  refine vm rfl rfl ⟨_,by repeat(first|exact List.Sublist.slnil|refine List.Sublist.cons_cons _ ?_),List.Perm.refl _⟩ (v0N e (b0r (by simp) (l0I _)))
 have e:a0V r bad k=(r.take k,r.drop k,bad):=by rw[a0V,if_neg (by omega)];simp
 refine yU (zn (zC (zq ?_)))
 refine zb ?_
 refine vB ?_
 refine zt ?_
 refine zA ?_
 refine zb ?_
 refine zb ?_
 refine vO (O.sliceMax rfl rfl rfl rfl (by rfl) (by rfl) (by omega) (by rfl)) ?_
 refine zc (zH (zn (zC (zq ?_))))
 refine zb ?_
 refine zb ?_
 refine vB ?_
 refine zt ?_
 refine zA ?_
 refine zb ?_
 refine vO (O.sliceFromB rfl rfl rfl (by rfl) (by omega)) ?_
 refine vB ?_
 refine zt ?_
 refine za 0 (zH (zn (zC (zq ?_))))
 refine zb ?_
 refine zc (zH (zn (y3 ?_)))
 refine AQ.g ?_
 refine wH 4 ?_
 refine AQ.u ?_
 refine vm rfl rfl ⟨_,by repeat(first|exact List.Sublist.slnil|refine List.Sublist.cons_cons _ ?_),List.Perm.refl _⟩ (v0N e (b0r (by simp;omega) (by simp)))
theorem u0y {b:Nat}{p q:Int×List UInt8×Bool}(h:q=p):IsM (.val (.int .i64 q.1)) (prs b q.2.1 q.2.2) (.val (.int .i64 p.1)) [prs b p.2.1 p.2.2]:=by subst h;exact⟨rfl,rfl⟩
theorem l0c (b:Nat)(r:List UInt8)(bad:Bool)(n:Int)(hn:0≤n∧n≤15):
  Sp Tryz.prog 190 [ptr b,.val (.int .u8 n)] [prs b r bad] (IsM (.val (.int .i64 (f0v r bad n).1)) (prs b (f0v r bad n).2.1 (f0v r bad n).2.2)):=by
 have q1:=c0i r bad 1 (by omega)
 have q2:=c0i r bad 2 (by omega)
 have q1':=q1.2.2 (by omega)
 have q2':=q2.2.2 (by omega)
 have u1:=b0t (bt (a0V r bad 1).1 0)
 have u2:=b0t (bt (a0V r bad 2).1 0)
 have u3:=b0t (bt (a0V r bad 2).1 1)
 refine yH Tryz.func190 _ Tryz.ntmps190 (fun w0 R0=> ?_)
 refine zC (zq ?_)
 refine zc (zH (zn (zC (zC (zq ?_)))))
 refine zb (zH (zn (xb (zC (zq ?_)))))
 refine yi ?_
 refine zc (zH (zn ?_))
 refine ym (fun h=> ?_) (fun h=> ?_)<;>(try simp only[vU]at h)
 ·have e:f0v r bad n=(((bt (a0V r bad 1).1 0).toNat:Int)+13,(a0V r bad 1).2):=if_pos h
  refine zC (zq ?_)
  refine zb ?_
  refine xJ 0 rfl rfl Tryz.func189 rfl rfl rfl rfl rfl rfl (i0N _ r bad _ (by omega)) ?_
  refine yf ?_
  refine vO (O.loadR rfl rfl (by exact b0a (k:=0) (by omega) rfl)) ?_
  refine xM ?_
  refine zx ?_
  refine zc (zH (zn (y3 ?_)))
  refine wg (xh ?_)
  refine vm rfl rfl ⟨_,by repeat(first|exact List.Sublist.slnil|refine List.Sublist.cons_cons _ ?_),List.Perm.refl _⟩ (u0y e)
 refine zC (zq ?_)
 refine yi ?_
 refine zc (zH (zn ?_))
 refine ym (fun h2=> ?_) (fun h2=> ?_)<;>(try simp only[vU]at h2)
 ·have e:f0v r bad n=(((bt (a0V r bad 2).1 0).toNat:Int)*256+((bt (a0V r bad 2).1 1).toNat:Int)+269,(a0V r bad 2).2):=by rw[f0v,if_neg h,if_pos h2]
  refine zC (zq ?_)
  refine zb ?_
  refine xJ 0 rfl rfl Tryz.func189 rfl rfl rfl rfl rfl rfl (i0N _ r bad _ (by omega)) ?_
  refine zc (zH (zn (zC ?_)))
  refine yo 12 ?_
  simp only[cT,cZ,cD,cO]
  refine zE ?_
  refine xd ?_
  refine vP (O.loadR rfl rfl (by exact b0a (k:=0) (by omega) rfl)) ?_
  refine wM ?_
  refine vP (O.shlK 8 256 rfl rfl rfl rfl (by rfl) (by exact d0Z (by omega))) ?_
  refine zE ?_
  refine xd ?_
  refine vP (O.loadR rfl rfl (by exact b0a (k:=1) (by omega) rfl)) ?_
  refine wM ?_
  refine xa ?_
  refine xa ?_
  refine vq ?_
  refine vf ?_
  simp only[a0g,cN,cA,cP]
  refine zH (zn (y3 ?_))
  refine wg (xh ?_)
  refine vm rfl rfl ⟨_,by repeat(first|exact List.Sublist.slnil|refine List.Sublist.cons_cons _ ?_),List.Perm.refl _⟩ (u0y e)
 refine zC (zq ?_)
 refine yi ?_
 refine zc (zH (zn ?_))
 refine ym (fun h3=> ?_) (fun h3=> ?_)<;>(try simp only[vU]at h3)
 ·have e:f0v r bad n=(n,r,true):=by rw[f0v,if_neg h,if_neg h2,if_pos h3]
  refine zq ?_
  refine zb ?_
  refine vB ?_
  refine zt ?_
  refine za 0 (zH (xA (zn (zC (zq ?_)))))
  refine zb ?_
  refine xM ?_
  refine zc (zH (zn (y3 ?_)))
  refine vm rfl rfl ⟨_,by repeat(first|exact List.Sublist.slnil|refine List.Sublist.cons_cons _ ?_),List.Perm.refl _⟩ (u0y e)
 have e:f0v r bad n=(n,r,bad):=by rw[f0v,if_neg h,if_neg h2,if_neg h3]
 refine yU (xA (zn (zC (zq ?_))))
 refine zb ?_
 refine xM ?_
 refine zc (zH (zn (y3 ?_)))
 refine vm rfl rfl ⟨_,by repeat(first|exact List.Sublist.slnil|refine List.Sublist.cons_cons _ ?_),List.Perm.refl _⟩ (u0y e)
theorem i0M {b:Nat}{r:List UInt8}{bad:Bool}{n:Int}{x r':List UInt8}{bad':Bool}(e:a0V r bad n=(x,r',bad'))(hn:0≤n∧n≤1000000):
  Sp Tryz.prog 189 [ptr b,.val (.int .i64 n)] [prs b r bad] (IsM (roB x) (prs b r' bad')):=by
 have:=i0N b r bad n hn
 rwa [e]at this
theorem g0A {b:Nat}{r:List UInt8}{bad:Bool}{n:Int}{v:Int}{r':List UInt8}{bad':Bool}(e:f0v r bad n=(v,r',bad'))(hn:0≤n∧n≤15):
  Sp Tryz.prog 190 [ptr b,.val (.int .u8 n)] [prs b r bad] (IsM (.val (.int .i64 v)) (prs b r' bad')):=by
 have:=l0c b r bad n hn
 rwa [e]at this
abbrev s0W (b x:List UInt8)(opts:List Opt)(r:List UInt8):Msg:=⟨((bt b 0).toNat:Int)/16%4,((bt b 1).toNat:Int),((bt b 2).toNat:Int)*256+((bt b 3).toNat:Int),x,opts,r.drop 1⟩
theorem n0G (b:List UInt8)(hb:b.length≤1000000):Sp Tryz.prog 173 [roB b] [] (Is (h0O (b0W b))):=by
 have u0:=b0t (bt b 0)
 have u1:=b0t (bt b 1)
 have u2:=b0t (bt b 2)
 have u3:=b0t (bt b 3)
 refine yH Tryz.func173 _ Tryz.ntmps173 (fun w0 R0=> ?_)
 refine zC (zq ?_)
 refine zd ?_
 intro B1
 refine zc (zH (zn (zC (xb (zC (zq ?_))))))
 refine zb ?_
 refine zZ ?_
 refine yN ?_
 refine zc (zH (zn ?_))
 refine ym (fun h=> ?_) (fun h=> ?_)<;>(try simp only[vU]at h)
 ·have e:b0W b=(Msg.none,8):=by rw[b0W,if_pos (by omega)]
  refine zC (zq ?_)
  refine zM ?_
  refine za 0 ?_
  refine zc (zH (zn (y3 ?_)))
  refine wg (xh ?_)
  refine x9 zP zk (m0v e rfl)
 refine zC (zq ?_)
 refine zb ?_
 refine zZ ?_
 refine zR ?_
 refine zc (zH (zn ?_))
 refine ym (fun h2=> ?_) (fun h2=> ?_)<;>(try simp only[vU]at h2)
 ·have e:b0W b=(Msg.none,2):=by rw[b0W,if_neg (by omega),if_pos (by omega)]
  refine zC (zq ?_)
  refine zM ?_
  refine za 0 ?_
  refine zc (zH (zn (y3 ?_)))
  refine wg (xh ?_)
  refine x9 zP zk (m0v e rfl)
 obtain⟨x,r0,bad0,e0⟩: ∃x r0 bad0,a0V (b.drop 4) false (((bt b 0).toNat:Int)%16)=(x,r0,bad0):=⟨_,_,_,rfl⟩
 obtain⟨hf0,hx⟩:=Fits.first e0
 have hl0:=c0i (b.drop 4) false (((bt b 0).toNat:Int)%16) (by omega)
 rw[e0]at hl0
 simp only[List.length_drop]at hl0
 refine yU (xA (zn (zC ?_)))
 refine yo 22 ?_
 simp only[cT,cZ,cD,cO]
 refine zE ?_
 refine xd ?_
 refine vP (O.loadR rfl rfl (by exact b0a (k:=0) (by omega) rfl)) ?_
 refine vP (wB 4 16) ?_
 refine vP (O.and_ rfl rfl rfl (j0z 2 (by decide) (by decide) (m:=4) (by decide) (by omega))) ?_
 refine wM ?_
 refine zE ?_
 refine xd ?_
 refine vP (O.loadR rfl rfl (by exact b0a (k:=1) (by omega) rfl)) ?_
 refine wM ?_
 refine zE ?_
 refine xd ?_
 refine vP (O.loadR rfl rfl (by exact b0a (k:=2) (by omega) rfl)) ?_
 refine wM ?_
 refine vP (O.shlK 8 256 rfl rfl rfl rfl (by rfl) (by exact d0Z (by omega))) ?_
 refine zE ?_
 refine xd ?_
 refine vP (O.loadR rfl rfl (by exact b0a (k:=3) (by omega) rfl)) ?_
 refine wM ?_
 refine vP (O.or_ rfl rfl rfl (m0W 8 (m:=256) (by decide) (by omega) (by omega))) ?_
 refine xN ?_
 refine yS ?_
 refine vf ?_
 simp only[a0g,cN,cA,cP]
 rintro _ _ ⟨B2,rfl,rfl⟩
 simp only[cA,cN]
 refine za 0 (zH (zn (zC (zq ?_))))
 refine zb ?_
 refine vO (O.sliceFromB (k:=4) rfl rfl rfl (by rfl) (by omega)) ?_
 refine zM ?_
 refine zd ?_
 intro B3
 refine za 0 (zH (zn (zC (zq ?_))))
 refine zb ?_
 refine yf ?_
 refine vO (O.loadR rfl rfl (by exact b0a (k:=0) (by omega) rfl)) ?_
 refine vO (O.and_ rfl rfl rfl (j0z 4 (by decide) (by decide) (m:=16) (by decide) (by omega))) ?_
 refine xM ?_
 refine xJ 0 rfl rfl Tryz.func189 rfl rfl rfl rfl rfl rfl (i0M e0 (by omega)) ?_
 refine vO (xD rfl Tryz.func138 rfl rfl rfl (e0Z _ (by omega))) ?_
 refine zt ?_
 refine za 1 (zH (zn (zC (zq ?_))))
 refine zc (zH (zn (zC (xb ?_))))
 refine AW.g ?_
 refine G.nilRow 96 2 ?_
 refine AW.u ?_
 refine zh [(0,_),(2,_),(4,_),(5,_)] (fun nn E H=> ∃(opts:List Opt) (last:Int) (r:List UInt8) (bad:Bool) (V:Value),(Fits b opts last r bad)∧(opts.length+r.length≤4096)∧(0≤last∧last≤65804*opts.length)∧(V.oneCell'=true)∧nn=r.length∧E= [(6,.val (.int .i64 last))]∧H= [.row V 96 2 opts.length (a0C opts),prs B3 r bad,.blk B2 29 6 [.val (.int .i64 (((bt b 0).toNat:Int)/16%4)),.val (.int .i64 ((bt b 1).toNat:Int)),.val (.int .i64 (((bt b 2).toNat:Int)*256+((bt b 3).toNat:Int))),roB x,.val V,.val (.slice none 0 0)],.blk B1 29 6 [.val (.int .i64 0),.val (.int .i64 0),.val (.int .i64 0),.val (.slice none 0 0),.val (.slice none 0 0),.val (.slice none 0 0)]]) _ (⟨[],0,r0,bad0,_,hf0,by simp;omega,by simp,rfl,rfl,rfl,rfl⟩) ?_
 rintro nn E H ⟨opts,last,r,bad,V,hf,hn,hl,hV,rfl,rfl,rfl⟩
 dsimp only[cA,cN]
 refine zC (zC (zq ?_))
 refine zt ?_
 refine zp ?_
 refine xo ?_
 refine zb ?_
 refine zK ?_
 refine zT 55 ?_
 refine yg 56 ?_
 refine yy 57 ?_
 refine zN ?_
 refine zb ?_
 refine zK ?_
 refine zT 61 ?_
 refine AO.opG rfl rfl rfl (fun hp=>wP 62 rfl (by exact hp) (O.idxR rfl rfl rfl ⟨(by omega),(by(simp only[cond_true,cond_false,Bool.not_eq_true',Bool.not_eq_false',Bool.and_eq_true,Bool.or_eq_true,Bool.or_eq_false_iff,Bool.and_eq_false_imp,cQ,decide_eq_false_iff_not,beq_iff_eq,bne_iff_ne,bne_eq_false_iff_eq,ne_eq]at hp;omega))⟩)) ?_
 refine AO.opG rfl rfl rfl (fun hp=>wP 63 rfl (by exact hp) (O.loadR rfl rfl (by exact b0a (k:=0) (by(simp only[cond_true,cond_false,Bool.not_eq_true',Bool.not_eq_false',Bool.and_eq_true,Bool.or_eq_true,Bool.or_eq_false_iff,Bool.and_eq_false_imp,cQ,decide_eq_false_iff_not,beq_iff_eq,bne_iff_ne,bne_eq_false_iff_eq,ne_eq]at hp;omega)) rfl))) ?_
 refine xF 64 ?_
 refine zN (zH (zn ?_))
 refine ym (fun h3=> ?_) (fun h3=> ?_)<;>(try simp only[vU]at h3)
 ·obtain⟨⟨rfl,h4⟩,h5⟩:=h3
  obtain⟨h0,r9,rfl⟩: ∃h0 r9,r=h0::r9:=by
   cases r with
   |nil=>simp at h4
   |cons h0 r9=>exact⟨h0,r9,rfl⟩
  have u4:=b0t h0
  have ea:a0V (h0::r9) false 1=([h0],r9,false):=by rw[a0V,if_neg (by simp;omega)];rfl
  obtain⟨v1,r1,b1,e1⟩: ∃v1 r1 b1,f0v r9 false ((h0.toNat:Int)/16)=(v1,r1,b1):=⟨_,_,_,rfl⟩
  obtain⟨v2,r2,b2,e2⟩: ∃v2 r2 b2,f0v r1 b1 ((h0.toNat:Int)%16)=(v2,r2,b2):=⟨_,_,_,rfl⟩
  obtain⟨y,r3,b3,e3⟩: ∃y r3 b3,a0V r2 b2 v2=(y,r3,b3):=⟨_,_,_,rfl⟩
  have q1:=n0f r9 false (n:=(h0.toNat:Int)/16) (by omega)
  have q2:=n0f r1 b1 (n:=(h0.toNat:Int)%16) (by omega)
  rw[e1]at q1
  rw[e2]at q2
  simp only at q1 q2
  have q3:=c0i r2 b2 v2 (by omega)
  rw[e3]at q3
  simp only at q3
  simp only[cL]at hn
  have hf2:Fits b (opts++[⟨last+v1,y⟩]) (last+v1) r3 b3:=hf.step (by simp) (fun e=>h5 (by rw[e];rfl)) e1 e2 e3
  have hsc:a0C (opts++[⟨last+v1,y⟩])=a0C opts++[.val (.int .i64 (last+v1)),roB y]:=a0M _ _
  refine yU (zn (xb (zC (zq ?_))))
  refine xJ 1 rfl rfl Tryz.func189 rfl rfl rfl rfl rfl rfl (i0M ea (by omega)) ?_
  refine vO (O.idxR rfl rfl rfl ⟨(by omega),(by(simp only[List.length_take,List.length_drop,cH,cL,cE,List.length_set,Nat.zero_add];omega))⟩) ?_
  refine vO (O.loadR rfl rfl (by rfl)) ?_
  refine zc (zH (zn (zC (zq ?_))))
  refine zb ?_
  refine zb ?_
  refine vO (wB 4 16) ?_
  refine xJ 1 rfl rfl Tryz.func190 rfl rfl rfl rfl rfl rfl (g0A e1 (by omega)) ?_
  refine zx ?_
  refine zc (zH (zn (zC (zq ?_))))
  refine zb ?_
  refine vO (O.and_ rfl rfl rfl (j0z 4 (by decide) (by decide) (m:=16) (by decide) (by omega))) ?_
  refine xJ 1 rfl rfl Tryz.func190 rfl rfl rfl rfl rfl rfl (g0A e2 (by omega)) ?_
  refine zc (zH (zn ?_))
  refine AW.regionS [[(0,false),(1,false),(2,false),(3,false),(4,true),(5,false),(6,false),(7,false)],[(8,true)],[(9,false)],[(10,true)]] (by kernel_rfl) (by kernel_rfl) ?_
  refine AMS.go (by exact(by exact a0h 5 1 rfl rfl a0c)) ?_
  try dsimp only[List.eraseIdx]
  refine xl ?_
  refine yY ?_
  refine y0 ?_
  refine y0 ?_
  refine xU _ (fun w0 R0=> ?_)
  refine xJ 0 rfl rfl Tryz.func189 rfl rfl rfl rfl rfl rfl (i0M e3 (by omega)) ?_
  refine AM.ok ?_
  dsimp only[a0w]
  refine vQ rfl (xD rfl Tryz.func138 rfl rfl rfl (e0Z _ (by omega))) ?_
  refine vQ rfl yb ?_
  refine xp ?_
  refine vn ?_
  try dsimp only[cA,cN]
  refine AMS.go (by exact(b0b 1 rfl a0c)) ?_
  try dsimp only[List.eraseIdx]
  refine xU _ (fun w0 R0=> ?_)
  refine zB 0 ?_
  intro V4 hV4
  refine AM.ok ?_
  dsimp only[a0w]
  refine vn ?_
  try dsimp only[cA,cN]
  refine AMS.go (by exact a0c) ?_
  try dsimp only[List.eraseIdx]
  refine xl ?_
  refine vn ?_
  try dsimp only[cA,cN]
  refine AMS.go (by exact(b0b 2 rfl a0c)) ?_
  try dsimp only[List.eraseIdx]
  refine xU _ (fun w0 R0=> ?_)
  refine y2 0 (AM.okN ?_)
  dsimp only[a0w]
  refine vn ?_
  try dsimp only[cA,cN]
  refine AMS.nil (xA ?_)
  refine xv _ _ _ (by simp;omega) (⟨opts++[⟨last+v1,y⟩],last+v1,r3,b3,_,hf2,by simp;omega,by simp;omega,‹_›,rfl,rfl,by rw[hsc,cH]⟩)
 have hend:bad=true∨r= []∨bt r 0=255:=by
  cases bad with
  |true=>exact .inl rfl
  |false=>
   cases r with
   |nil=>exact .inr (.inl rfl)
   |cons h0 r9=>exact .inr (.inr (u8_eq.1 (h3 ⟨rfl,by simp⟩)))
 have hall:=hf.all hx hend rfl rfl rfl rfl
 refine AW.g ?_
 refine G.freezeCell 0 1 4 rfl rfl rfl ?_
 refine AW.u ?_
 refine AW.g ?_
 refine G.coeCell 1 5 rfl rfl Coe.nil ?_
 refine AW.u ?_
 refine wm ?_
 refine xY ?_
 refine wa ?_
 refine xq (zn (zC (zC (zq ?_))))
 refine zt ?_
 refine zA ?_
 refine zZ ?_
 refine yN (zH (zn ?_))
 refine wh True [(0,_),(2,_),(4,_),(5,_)] [] [prs B3 r bad,.blk B2 29 6 [.val (.int .i64 (((bt b 0).toNat:Int)/16%4)),.val (.int .i64 ((bt b 1).toNat:Int)),.val (.int .i64 (((bt b 2).toNat:Int)*256+((bt b 3).toNat:Int))),roB x,roO opts,roB (r.drop 1)],.blk B1 29 6 [.val (.int .i64 0),.val (.int .i64 0),.val (.int .i64 0),.val (.slice none 0 0),.val (.slice none 0 0),.val (.slice none 0 0)]] (fun hb=> ?_) (fun hb=> ?_) (fun hj=> ?_)<;>try(try simp only[vU]at hb)
 ·have hb':=hb
  refine zq ?_
  refine zt ?_
  refine zA ?_
  refine vO (O.sliceFromB (k:=1) rfl rfl rfl (by rfl) (by omega)) ?_
  refine vO (xD rfl Tryz.func138 rfl rfl rfl (e0Z _ (by(simp;omega)))) ?_
  refine zt ?_
  refine za 1 (zH ?_)
  refine wY
 ·have hb':=hb
  obtain rfl:r= []:=List.eq_nil_of_length_eq_zero (by omega)
  refine yU ?_
  refine wY
 dsimp only[cA,cN]
 refine zn (zC (zC (zq ?_)))
 refine zt ?_
 refine zA ?_
 refine zb ?_
 refine AO.opG rfl rfl rfl (fun hp=>zj) ?_
 refine AO.opG rfl rfl rfl (fun hp=>wP 100 rfl (by exact hp) (xD rfl Tryz.func162 rfl rfl rfl (o0s (s0W b x opts r)))) ?_
 refine xf 101 ?_
 refine zG ?_
 refine zb ?_
 refine AO.opG rfl rfl rfl (fun hp=>zj) ?_
 refine AO.opG rfl rfl rfl (fun hp=>wP 105 rfl (by exact hp) (O.call rfl Tryz.func163 rfl rfl rfl (n0z (s0W b x opts r) (by have:=hp;simp at this;exact this.2)))) ?_
 refine yl ?_
 refine AO.opG rfl rfl rfl (fun hp=>wP 106 rfl (by exact hp) (wP 107 rfl (by exact hp) (xD rfl Tryz.func172 rfl rfl rfl (p0J _ _)))) ?_
 refine xf 108 ?_
 refine zG (zH (zn ?_))
 refine ym (fun h6=> ?_) (fun h6=> ?_)<;>(try simp only[vU]at h6)
 ·have e:b0W b=(Msg.none,4):=f0M (by omega) (by omega) fun m hm hr=>by
   obtain⟨g1,g2⟩:=hall m hm hr
   subst g2
   rcases h6 with(h6|h6)|h6
   ·rw[g1]at h6;cases h6
   ·exact h6 hm
   exact h6 hr
  refine zC (zq ?_)
  refine zM ?_
  refine za 2 ?_
  refine zc (zH (zn (y3 (xh ?_))))
  refine x9 zo zk (m0v e rfl)
 have e:b0W b=(s0W b x opts r,0):=k0v (by omega) (by omega) h6.1.2 h6.2 fun m hm hr=>(hall m hm hr).2
 refine yU (zn (zC (zq ?_)))
 refine zw ?_
 refine za 2 ?_
 refine zc (zH (zn (y3 ?_)))
 refine x9 zo yQ (m0v e rfl)
def e0T (b:List UInt8)(n:Int)(i:Nat):Int×Nat:=
 if n<13 then(n,i)else if n=13∧i<b.length then(13+((bt b i).toNat:Int),i+1)
 else if n=14∧i+1<b.length then(269+((bt b i).toNat:Int)*256+((bt b (i+1)).toNat:Int),i+2)else(-1,i)
theorem j0u (b:List UInt8)(i j:Nat):bt (b.drop i) j=bt b (i+j):=by
 simp[bt,List.getD]
theorem k0f {b t:List UInt8}{x:Int}{i:Nat}(h:0≤x∧x≤65804)(hb:b.drop i=(ext x).2++t):e0T b (ext x).1 i=(x,i+(ext x).2.length)∧b.drop (i+(ext x).2.length)=t:=by
 refine⟨?_,by rw[←List.drop_drop,hb];simp⟩
 have hl:=congrArg List.length hb
 have h0:=congrArg (fun l=>bt l 0) hb
 have h1:=congrArg (fun l=>bt l 1) hb
 simp only[j0u,List.length_drop,cH]at hl h0 h1
 unfold ext at hl h0 h1⊢
 split at hl<;>rename_i g1
 ·unfold e0T;rw[if_pos g1,if_pos (by simp only;omega)];rfl
 rw[if_neg g1]at h0 h1⊢
 split at hl<;>rename_i g2
 ·rw[if_pos g2]at h0 h1⊢
  have:=a0I (x:=x-13) (by omega)
  simp only[cL,cE]at hl⊢
  unfold e0T
  rw[if_neg (by omega),if_pos ⟨rfl,by omega⟩]
  simp only[Nat.add_zero]at h0
  rw[h0]
  refine Prod.ext ?_ rfl
  show 13+((u8 (x-13)).toNat:Int)=x
  omega
 rw[if_neg g2]at h0 h1⊢
 have q1:=a0I (x:=(x-269)/256) (by omega)
 have q2:=c0c (x-269)
 simp only[cL,cE]at hl⊢
 unfold e0T
 rw[if_neg (by omega),if_neg (by omega),if_pos ⟨rfl,by omega⟩]
 simp only[Nat.add_zero]at h0
 rw[h0,h1]
 refine Prod.ext ?_ rfl
 show 269+((u8 ((x-269)/256)).toNat:Int)*256+((u8 (x-269)).toNat:Int)=x
 omega
theorem h0i (b:List UInt8){n:Int}(h:0≤n∧n≤15){i:Nat}(hi:i≤b.length): -1≤(e0T b n i).1∧(e0T b n i).1≤65804∧i≤(e0T b n i).2∧(e0T b n i).2≤b.length:=by
 have:=b0t (bt b i)
 have:=b0t (bt b (i+1))
 unfold e0T
 (repeat' split)<;>simp only<;>omega
theorem Fits.refstep {b:List UInt8}{opts:List Opt}{last:Int}{i:Nat}(h:Fits b opts last (b.drop i) false)(hat:i<b.length)(h2:((bt b i).toNat:Int)≠255){v1 v2:Int}{j k:Nat}
  (e1:e0T b (((bt b i).toNat:Int)/16) (i+1)=(v1,j)) (e2:e0T b (((bt b i).toNat:Int)%16) j=(v2,k)): ∀m,OkM m→raw m=b→
  0≤v1∧0≤v2∧k+v2≤b.length∧opts.length+1≤m.opts.length∧b.drop (k+v2.toNat)=c0u m (opts.length+1)∧opts++[⟨last+v1,(b.drop k).take v2.toNat⟩]=m.opts.take (opts.length+1):=fun m hm hr=>by
 have hd:=f0L hat
 have hr0:bt (b.drop i) 0=bt b i:=j0u b i 0
 obtain⟨o,d,n,h5,h6,h7,h8,h9,h10,h11,h12,h13⟩:=h.parts hm hr (by rw[hd];simp) (fun e=>h2 (by rw[←hr0,e];rfl))
 obtain⟨-, -, -,h16,h17⟩:=h m hm hr
 have q1:=c0d d h9
 have q2:=c0d n (by omega)
 rw[hr0]at h12
 rw[List.drop_drop]at h13
 obtain⟨g1,g2⟩:=k0f (by omega) h13
 rw[h12,show(16*(ext d).1+(ext n).1)/16=(ext d).1 by omega,g1]at e1
 simp only[Prod.mk.injEq]at e1
 obtain⟨e11,e12⟩:=e1
 rw[e12]at g2
 obtain⟨g3,g4⟩:=k0f (by omega) g2
 rw[h12,show(16*(ext d).1+(ext n).1)%16=(ext n).1 by omega,g3]at e2
 simp only[Prod.mk.injEq]at e2
 obtain⟨e21,e22⟩:=e2
 rw[e22]at g4
 have hl:=congrArg List.length g4
 simp only[List.length_drop,cH]at hl
 have hv:v2.toNat=o.val.length:=by omega
 have hol:last+v1=o.num:=by omega
 have hk:(k:Int)+v2≤b.length:=by
  rcases Nat.lt_or_ge b.length k with h|h
  ·exfalso
   have:=h0i b (n:=((bt b i).toNat:Int)%16) (by omega) (i:=j) (by have:=h0i b (n:=((bt b i).toNat:Int)/16) (by have:=b0t (bt b i);omega) (i:=i+1) (by omega);rw[h12,show(16*(ext d).1+(ext n).1)/16=(ext d).1 by omega,g1]at this;simp only at this;omega)
   rw[h12,show(16*(ext d).1+(ext n).1)%16=(ext n).1 by omega,g3]at this
   simp only at this
   omega
  omega
 refine⟨by omega,by omega,hk,h5,?_,?_⟩
 ·rw[←List.drop_drop,g4,hv];simp
 rw[a0i Opt.none h5,←h17,g4,hv,hol,List.take_left' rfl,h6]
theorem retN {q:AV}{r:Int×Nat}{v:Int}{i:Nat}(h:r=(v,i))(hq:q= .tup [.val (.int .i64 v),.val (.int .i64 (i:Int))]):Is (.tup [.val (.int .i64 r.1),.val (.int .i64 (r.2:Int))]) q []:=by subst h;exact⟨hq,rfl⟩
theorem o0K (b:List UInt8)(n:Int)(i:Nat)(hn:0≤n∧n≤15)(hb:b.length≤1000000)(hi:i≤b.length):
  Sp Tryz.prog 203 [roB b,.val (.int .i64 n),.val (.int .i64 (i:Int))] [] (Is (.tup [.val (.int .i64 (e0T b n i).1),.val (.int .i64 ((e0T b n i).2:Int))])):=by
 have u0:=b0t (bt b i)
 have u1:=b0t (bt b (i+1))
 refine yH Tryz.func203 _ Tryz.ntmps203 (fun w0 R0=> ?_)
 refine zC (zq ?_)
 refine zc ?_
 refine zc (zH (zn (zC (xb (zC (zq ?_))))))
 refine zb ?_
 refine zR ?_
 refine zc (zH (zn ?_))
 refine ym (fun h=> ?_) (fun h=> ?_)<;>(try simp only[vU]at h)
 ·have e:e0T b n i=(n,i):=by rw[e0T,if_pos h]
  refine zC (zq ?_)
  refine zb ?_
  refine zb ?_
  refine zc ?_
  refine zc (zH (zn (y3 ?_)))
  refine wg (xh ?_)
  refine AQ.ret2 rfl rfl rfl nS (retN e rfl)
 refine zC (zq ?_)
 refine zb ?_
 refine yi ?_
 refine zb ?_
 refine yl ?_
 refine yl ?_
 refine yg 18 ?_
 refine AO.opG rfl rfl rfl (fun hp=>wP 17 rfl (by exact hp) (wP 19 rfl (by exact hp) yp)) ?_
 refine zN ?_
 refine zc (zH (zn ?_))
 refine ym (fun h2=> ?_) (fun h2=> ?_)<;>(try simp only[vU]at h2)
 ·have e:e0T b n i=(13+((bt b i).toNat:Int),i+1):=by rw[e0T,if_neg (by omega),if_pos (by omega)]
  refine zC (zq ?_)
  refine zb ?_
  refine zb ?_
  refine yf ?_
  refine vO (O.loadR rfl rfl (by exact b0a (k:=i) (by omega) (by omega))) ?_
  refine xM ?_
  refine zx ?_
  refine zb ?_
  refine zx ?_
  refine zc ?_
  refine zc (zH (zn (y3 ?_)))
  refine wg (xh ?_)
  refine AQ.ret2 rfl rfl rfl nS (retN e rfl)
 refine zC (zq ?_)
 refine zb ?_
 refine yi ?_
 refine zb ?_
 refine yl ?_
 refine AO.opG rfl rfl rfl (fun hp=>wP 34 rfl (by exact hp) zD) ?_
 refine yl ?_
 refine yg 36 ?_
 refine AO.opG rfl rfl rfl (fun hp=>wP 35 rfl (by exact hp) (wP 37 rfl (by exact hp) yp)) ?_
 refine zN ?_
 refine zc (zH (zn ?_))
 refine ym (fun h3=> ?_) (fun h3=> ?_)<;>(try simp only[vU]at h3)
 ·have e:e0T b n i=(269+((bt b i).toNat:Int)*256+((bt b (i+1)).toNat:Int),i+2):=by rw[e0T,if_neg (by omega),if_neg (by omega),if_pos (by omega)]
  refine zC ?_
  refine yo 18 ?_
  simp only[cT,cZ,cD,cO]
  refine zE ?_
  refine zE ?_
  refine xd ?_
  refine vP (O.loadR rfl rfl (by exact b0a (k:=i) (by omega) (by omega))) ?_
  refine wM ?_
  refine vP (O.shlK 8 256 rfl rfl rfl rfl (by rfl) (by exact d0Z (by omega))) ?_
  refine xa ?_
  refine zE ?_
  refine zE ?_
  refine xa ?_
  refine xd ?_
  refine vP (O.loadR rfl rfl (by exact b0a (k:=i+1) (by omega) (by omega))) ?_
  refine wM ?_
  refine xa ?_
  refine zE ?_
  refine xa ?_
  refine vq ?_
  refine vq ?_
  refine vf ?_
  simp only[a0g,cN,cA,cP]
  refine zH (zn (y3 ?_))
  refine wg (xh ?_)
  refine AQ.ret2 rfl rfl rfl nS (retN e rfl)
 have e:e0T b n i=(-1,i):=by rw[e0T,if_neg (by omega),if_neg (by omega),if_neg (by omega)]
 refine yU (xA (zn (zC (zq ?_))))
 refine zb ?_
 refine zc ?_
 refine zc (zH (zn (y3 ?_)))
 refine AQ.ret2 rfl rfl rfl nS (retN e rfl)
theorem g0w {b:List UInt8}{n:Int}{i j:Nat}{v:Int}(e:e0T b n i=(v,j))(hn:0≤n∧n≤15)(hb:b.length≤1000000)(hi:i≤b.length):
  Sp Tryz.prog 203 [roB b,.val (.int .i64 n),.val (.int .i64 (i:Int))] [] (Is (.tup [.val (.int .i64 v),.val (.int .i64 (j:Int))])):=by
 have:=o0K b n i hn hb hi
 rwa [e]at this
theorem k0X (b:List UInt8)(hb:b.length≤1000000):Sp Tryz.prog 191 [roB b] [] (Is (h0O (b0W b))):=by
 have u0:=b0t (bt b 0)
 have u1:=b0t (bt b 1)
 have u2:=b0t (bt b 2)
 have u3:=b0t (bt b 3)
 refine yH Tryz.func191 _ Tryz.ntmps191 (fun w0 R0=> ?_)
 refine zC (zq ?_)
 refine zd ?_
 intro B1
 refine zc (zH (zn (zC (xb (zC (zq ?_))))))
 refine zb ?_
 refine zZ ?_
 refine yN ?_
 refine zc (zH (zn ?_))
 refine ym (fun h=> ?_) (fun h=> ?_)<;>(try simp only[vU]at h)
 ·have e:b0W b=(Msg.none,8):=by rw[b0W,if_pos (by omega)]
  refine zC (zq ?_)
  refine zM ?_
  refine za 0 ?_
  refine zc (zH (zn (y3 ?_)))
  refine wg (xh ?_)
  refine x9 zP zk (m0v e rfl)
 refine zC (zq ?_)
 refine zb ?_
 refine zZ ?_
 refine zR ?_
 refine zc (zH (zn ?_))
 refine ym (fun h2=> ?_) (fun h2=> ?_)<;>(try simp only[vU]at h2)
 ·have e:b0W b=(Msg.none,2):=by rw[b0W,if_neg (by omega),if_pos (by omega)]
  refine zC (zq ?_)
  refine zM ?_
  refine za 0 ?_
  refine zc (zH (zn (y3 ?_)))
  refine wg (xh ?_)
  refine x9 zP zk (m0v e rfl)
 refine yU (xA (zn (zC (zq ?_))))
 refine zb ?_
 refine yf ?_
 refine vO (O.loadR rfl rfl (by exact b0a (k:=0) (by omega) rfl)) ?_
 refine vO (O.and_ rfl rfl rfl (j0z 4 (by decide) (by decide) (m:=16) (by decide) (by omega))) ?_
 refine xM ?_
 refine zc (zH (zn (zC ?_)))
 refine yo 22 ?_
 simp only[cT,cZ,cD,cO]
 refine zE ?_
 refine xd ?_
 refine vP (O.loadR rfl rfl (by exact b0a (k:=0) (by omega) rfl)) ?_
 refine vP (wB 4 16) ?_
 refine vP (O.and_ rfl rfl rfl (j0z 2 (by decide) (by decide) (m:=4) (by decide) (by omega))) ?_
 refine wM ?_
 refine zE ?_
 refine xd ?_
 refine vP (O.loadR rfl rfl (by exact b0a (k:=1) (by omega) rfl)) ?_
 refine wM ?_
 refine zE ?_
 refine xd ?_
 refine vP (O.loadR rfl rfl (by exact b0a (k:=2) (by omega) rfl)) ?_
 refine wM ?_
 refine vP (O.shlK 8 256 rfl rfl rfl rfl (by rfl) (by exact d0Z (by omega))) ?_
 refine zE ?_
 refine xd ?_
 refine vP (O.loadR rfl rfl (by exact b0a (k:=3) (by omega) rfl)) ?_
 refine wM ?_
 refine vP (O.or_ rfl rfl rfl (m0W 8 (m:=256) (by decide) (by omega) (by omega))) ?_
 refine xN ?_
 refine yS ?_
 refine vf ?_
 simp only[a0g,cN,cA,cP]
 rintro _ _ ⟨B2,rfl,rfl⟩
 simp only[cA,cN]
 refine za 0 (zH (zn (zC (zC (zq ?_)))))
 refine zb ?_
 refine yN ?_
 refine zb ?_
 refine yl ?_
 refine yg 53 ?_
 refine yl ?_
 refine AO.opG rfl rfl rfl (fun hp=>wP 55 rfl (by exact hp) zD) ?_
 refine AO.opG rfl rfl rfl (fun hp=>wP 54 rfl (by exact hp) (wP 56 rfl (by exact hp) yp)) ?_
 refine zG (zH (zn ?_))
 refine ym (fun h3=> ?_) (fun h3=> ?_)<;>(try simp only[vU]at h3)
 ·have e:b0W b=(Msg.none,4):=f0M (by omega) (by omega) fun m hm hr=>by
   obtain⟨g1, -, -, -,g5⟩:=Fits.start m hm hr
   have q1:=hm.1
   have q2:=hm.2.1
   have g6:=congrArg List.length g5
   simp only[List.length_drop,cH]at g6
   omega
  refine zC (zq ?_)
  refine zM ?_
  refine za 1 ?_
  refine zc (zH (zn (y3 (xh ?_))))
  refine x9 zo zk (m0v e rfl)
 obtain⟨c,hc⟩: ∃c:Nat,(c:Int)=((bt b 0).toNat:Int)%16:=⟨(bt b 0).toNat%16,by omega⟩
 have e0:a0V (b.drop 4) false (((bt b 0).toNat:Int)%16)=((b.drop 4).take (4+c-4),b.drop (4+c),false):=by
  rw[a0V,if_neg (by rw[List.length_drop];omega),←hc];simp
 obtain⟨hf0,hx⟩:=Fits.first e0
 refine yU (zn (zC (zq ?_)))
 refine zb ?_
 refine zb ?_
 refine zx ?_
 refine vO (O.sliceLHB rfl rfl rfl rfl (lo:=4) (hi:=4+c) (by rfl) (by omega) (by omega) (by omega)) ?_
 refine yT ?_
 intro V3 hV3
 refine AO.g ?_
 refine yL 0 [64] ?_
 refine AO.u ?_
 dsimp only[List.map,List.eraseIdx,cA,cN]
 refine zt ?_
 refine za 0 (zH (zn (zC (zq ?_))))
 refine zb ?_
 refine zx ?_
 refine zc ?_
 refine zc (zH (zn (zC (zq ?_))))
 refine zc (zH (zn (zC (xb ?_))))
 refine AW.g ?_
 refine G.nilRow 96 2 ?_
 refine AW.u ?_
 refine zh [(0,_),(2,_),(5,_)] (fun nn E H=> ∃(i:Nat) (opts:List Opt) (last:Int) (V:Value),(Fits b opts last (b.drop i) false)∧(i≤b.length)∧(opts.length≤i)∧(0≤last∧last≤65804*opts.length)∧(V.oneCell'=true)∧nn=b.length-i∧E= [(6,.val (.int .i64 (i:Int))),(7,.val (.int .i64 last)),(8,.val V)]∧H= [.row V 96 2 opts.length (a0C opts),.blk B2 29 6 [.val (.int .i64 (((bt b 0).toNat:Int)/16%4)),.val (.int .i64 ((bt b 1).toNat:Int)),.val (.int .i64 (((bt b 2).toNat:Int)*256+((bt b 3).toNat:Int))),roB ((b.drop 4).take (4+c-4)),.val (.slice none 0 0),.val (.slice none 0 0)],.blk B1 29 6 [.val (.int .i64 0),.val (.int .i64 0),.val (.int .i64 0),.val (.slice none 0 0),.val (.slice none 0 0),.val (.slice none 0 0)]]) _ (⟨4+c,[],0,_,hf0,by omega,by simp,by simp,rfl,rfl,by rw[show((4+c:Nat):Int)=4+((bt b 0).toNat:Int)%16 by omega],rfl⟩) ?_
 rintro nn E H ⟨i,opts,last,V,hf,hi,hn,hl,hV,rfl,rfl,rfl⟩
 dsimp only[cA,cN]
 refine zC (zC (zq ?_))
 refine zb ?_
 refine zb ?_
 refine zZ ?_
 refine zR ?_
 refine zb ?_
 refine yl ?_
 refine yl ?_
 refine AO.opG rfl rfl rfl (fun hp=>wP 73 rfl (by exact hp) (wP 74 rfl (by exact hp) (O.idxR rfl rfl rfl ⟨(by omega),(by(simp only[cond_true,cond_false,Bool.not_eq_true',Bool.not_eq_false',Bool.and_eq_true,Bool.or_eq_true,Bool.or_eq_false_iff,Bool.and_eq_false_imp,cQ,decide_eq_false_iff_not,beq_iff_eq,bne_iff_ne,bne_eq_false_iff_eq,ne_eq]at hp;omega))⟩))) ?_
 refine AO.opG rfl rfl rfl (fun hp=>wP 75 rfl (by exact hp) (O.loadR rfl rfl (by exact b0a (k:=i) (by(simp only[cond_true,cond_false,Bool.not_eq_true',Bool.not_eq_false',Bool.and_eq_true,Bool.or_eq_true,Bool.or_eq_false_iff,Bool.and_eq_false_imp,cQ,decide_eq_false_iff_not,beq_iff_eq,bne_iff_ne,bne_eq_false_iff_eq,ne_eq]at hp;omega)) (by omega)))) ?_
 refine xF 76 ?_
 refine zN (zH (zn ?_))
 refine ym (fun h4=> ?_) (fun h4=> ?_)<;>(try simp only[vU]at h4)
 ·have u4:=b0t (bt b i)
  obtain⟨v1,j,e1⟩: ∃v1 j,e0T b (((bt b i).toNat:Int)/16) (i+1)=(v1,j):=⟨_,_,rfl⟩
  obtain⟨v2,k,e2⟩: ∃v2 k,e0T b (((bt b i).toNat:Int)%16) j=(v2,k):=⟨_,_,rfl⟩
  have q1:=h0i b (n:=((bt b i).toNat:Int)/16) (by omega) (i:=i+1) (by omega)
  rw[e1]at q1
  simp only at q1
  have q2:=h0i b (n:=((bt b i).toNat:Int)%16) (by omega) (i:=j) (by omega)
  rw[e2]at q2
  simp only at q2
  have hst:=hf.refstep (by omega) h4.2 e1 e2
  refine yU (zn (xb (zC (zq ?_))))
  refine zb ?_
  refine zb ?_
  refine yf ?_
  refine vO (O.loadR rfl rfl (by exact b0a (k:=i) (by omega) (by omega))) ?_
  refine zc (zH (zn (zC (zq ?_))))
  refine zb ?_
  refine zb ?_
  refine vO (wB 4 16) ?_
  refine xM ?_
  refine zb ?_
  refine zx ?_
  refine vO (O.callC rfl Tryz.func203 rfl rfl rfl (g0w e1 (by omega) (by omega) (by omega)) (by(repeat(first|exact CoeL.nil|refine CoeL.cons Coe.rfl ?_));done)) ?_
  refine zb ?_
  refine zW ?_
  refine zW ?_
  refine zc ?_
  refine zc (zH (zn (zC (zC (zq ?_)))))
  refine zb ?_
  refine zR (zH (zn ?_))
  refine ym (fun h5=> ?_) (fun h5=> ?_)<;>(try simp only[vU]at h5)
  ·have e:b0W b=(Msg.none,4):=f0M (by omega) (by omega) fun m hm hr=>by
    have:=(hst m hm hr).1
    omega
   refine zC (zq ?_)
   refine zM ?_
   refine za 2 ?_
   refine zc (zH (zn (y3 (xh ?_))))
   refine wg ?_
   refine AQ.loopR ?_
   refine wg (xh ?_)
   refine x9 zo zk (m0v e rfl)
  refine yU (zn (zC (zq ?_)))
  refine zb ?_
  refine zb ?_
  refine vO (O.and_ rfl rfl rfl (j0z 4 (by decide) (by decide) (m:=16) (by decide) (by omega))) ?_
  refine xM ?_
  refine zb ?_
  refine vO (xD rfl Tryz.func203 rfl rfl rfl (g0w e2 (by omega) (by omega) (by omega))) ?_
  refine zb ?_
  refine zW ?_
  refine zW ?_
  refine zc ?_
  refine zc (zH (zn (zC (zC (zq ?_)))))
  refine zb ?_
  refine zR ?_
  refine zb ?_
  refine yl ?_
  refine yl ?_
  refine yg 109 ?_
  refine yl ?_
  refine AO.opG rfl rfl rfl (fun hp=>wP 110 rfl (by exact hp) (vI 111 rfl (by exact hp))) ?_
  refine AO.opG rfl rfl rfl (fun hp=>wP 108 rfl (by exact hp) (wP 112 rfl (by exact hp) yI)) ?_
  refine zG (zH (zn ?_))
  refine ym (fun h6=> ?_) (fun h6=> ?_)<;>(try simp only[vU]at h6)
  ·have e:b0W b=(Msg.none,4):=f0M (by omega) (by omega) fun m hm hr=>by
    have:=hst m hm hr
    omega
   refine zC (zq ?_)
   refine zM ?_
   refine za 2 ?_
   refine zc (zH (zn (y3 (xh ?_))))
   refine wg ?_
   refine AQ.loopR ?_
   refine wg (xh ?_)
   refine x9 zo zk (m0v e rfl)
  obtain⟨z,rfl⟩: ∃z:Nat,v2=(z:Int):=⟨v2.toNat,by omega⟩
  have hf2:Fits b (opts++[⟨last+v1,(b.drop k).take (k+z-k)⟩]) (last+v1) (b.drop (k+z)) false:=fun m hm hr=>by
   obtain⟨-, -,g3,g4,g5,g6⟩:=hst m hm hr
   refine⟨rfl,by simpa using g4,by simpa using g5,by rw[b0i],by simpa using g6⟩
  have hsc:a0C (opts++[⟨last+v1,(b.drop k).take (k+z-k)⟩])=a0C opts++[.val (.int .i64 (last+v1)),roB ((b.drop k).take (k+z-k))]:=a0M _ _
  refine yU (zn (zC (zq ?_)))
  refine zb ?_
  refine zb ?_
  refine zx ?_
  refine zc (zH (zn (zC (zq ?_))))
  refine zb ?_
  refine zb ?_
  refine zb ?_
  refine zb ?_
  refine zb ?_
  refine zb ?_
  refine zx ?_
  refine vO (O.sliceLHB rfl rfl rfl rfl (lo:=k) (hi:=k+z) (by rfl) (by rfl) (by omega) (by omega)) ?_
  refine yT ?_
  intro V4 hV4
  refine AO.g ?_
  refine yL 0 [127] ?_
  refine AO.u ?_
  dsimp only[List.map,List.eraseIdx,cA,cN]
  refine zM ?_
  refine zU ?_
  intro B5
  refine AO.g ?_
  refine yr 0 129 ?_
  refine wH 129 ?_
  refine AO.u ?_
  dsimp only[List.eraseIdx]
  refine zB 0 ?_
  intro V6 hV6
  refine zc (zH (zn (zq ?_)))
  refine zb ?_
  refine zb ?_
  refine zx ?_
  refine zc (zH (xA ?_))
  refine zr _ _ _ (by omega) (⟨k+z,opts++[⟨last+v1,(b.drop k).take (k+z-k)⟩],last+v1,_,hf2,by omega,by simp;omega,by simp;omega,‹_›,rfl,rfl,by rw[hsc,cH]⟩)
 have hend:false=true∨b.drop i= []∨bt (b.drop i) 0=255:=by
  rcases Nat.lt_or_ge i b.length with h9|h9
  ·refine .inr (.inr ?_)
   rw[j0u]
   exact u8_eq.1 (h4 (by omega))
  exact .inr (.inl (List.drop_eq_nil_of_le h9))
 have hall:=hf.all hx hend rfl rfl rfl rfl
 refine AW.g ?_
 refine yj 0 [8] ?_
 refine AW.u ?_
 try dsimp only[List.map,List.eraseIdx,cA,cN]
 refine AW.g ?_
 refine G.coeCell 0 5 rfl rfl Coe.nil ?_
 refine AW.u ?_
 refine wm ?_
 refine xY ?_
 refine wa ?_
 refine xq (zn (zC (zq ?_)))
 refine zb ?_
 refine zt ?_
 refine za 0 (zH (zn (zC (zC (zq ?_)))))
 refine zb ?_
 refine zb ?_
 refine zZ ?_
 refine zR (zH (zn ?_))
 refine wh True [(0,_),(2,_),(5,_)] [] [.blk B2 29 6 [.val (.int .i64 (((bt b 0).toNat:Int)/16%4)),.val (.int .i64 ((bt b 1).toNat:Int)),.val (.int .i64 (((bt b 2).toNat:Int)*256+((bt b 3).toNat:Int))),roB ((b.drop 4).take (4+c-4)),roO opts,roB ((b.drop i).drop 1)],.blk B1 29 6 [.val (.int .i64 0),.val (.int .i64 0),.val (.int .i64 0),.val (.slice none 0 0),.val (.slice none 0 0),.val (.slice none 0 0)]] (fun hb=> ?_) (fun hb=> ?_) (fun hj=> ?_)<;>try(try simp only[vU]at hb)
 ·rw[show(b.drop i).drop 1=b.drop (i+1) by simp]
  refine zq ?_
  refine zb ?_
  refine zb ?_
  refine zx ?_
  refine vO (O.sliceFromB (k:=i+1) rfl rfl rfl (by rfl) (by omega)) ?_
  refine yT ?_
  intro V7 hV7
  refine AO.g ?_
  refine yL 0 [144] ?_
  refine AO.u ?_
  dsimp only[List.map,List.eraseIdx,cA,cN]
  refine zt ?_
  refine za 0 (zH ?_)
  refine vh
 ·rw[show(b.drop i).drop 1= [] by simp;omega]
  refine yU ?_
  refine wY
 dsimp only[cA,cN]
 refine zn (zC (zC ?_))
 refine yo 11 ?_
 simp only[cT,cZ,cD,cO]
 refine vu ?_
 refine vP (xD rfl Tryz.func164 rfl rfl rfl (f0n (s0W b ((b.drop 4).take (4+c-4)) opts (b.drop i)))) ?_
 refine vP xy ?_
 refine zE ?_
 refine FA.opG rfl rfl rfl rfl (fun hp=>zy) ?_
 refine FA.opG rfl rfl rfl rfl (fun hp=>wP 150 rfl (by exact hp) (O.call rfl Tryz.func165 rfl rfl rfl (m0F (s0W b ((b.drop 4).take (4+c-4)) opts (b.drop i)) (by have:=hp;simp only[cond_false,Bool.not_not,cQ]at this;exact this.1)))) ?_
 refine FA.opG rfl rfl rfl rfl (fun hp=>wP 151 rfl (by exact hp) vK) ?_
 refine FA.opG rfl rfl rfl rfl (fun hp=>zf) ?_
 refine FA.opG rfl rfl rfl rfl (fun hp=>wP 153 rfl (by exact hp) vK) ?_
 refine FA.opG rfl rfl rfl rfl (fun hp=>wP 152 rfl (by exact hp) (wP 154 rfl (by exact hp) (O.neqS rfl rfl rfl (by rfl)))) ?_
 refine vP zL ?_
 refine vf ?_
 simp only[a0g,cN,cA,cP]
 refine zH (zn ?_)
 refine ym (fun h6=> ?_) (fun h6=> ?_)<;>(try simp only[vU]at h6)
 ·have e:b0W b=(Msg.none,4):=f0M (by omega) (by omega) fun m hm hr=>by
   obtain⟨g1,g2⟩:=hall m hm hr
   subst g2
   rcases h6 with h6|h6
   ·exact h6 ⟨hm,by rw[hr];omega⟩
   exact h6 hr
  refine zC (zq ?_)
  refine zM ?_
  refine za 1 ?_
  refine zc (zH (zn (y3 (xh ?_))))
  refine x9 zo zk (m0v e rfl)
 have e:b0W b=(s0W b ((b.drop 4).take (4+c-4)) opts (b.drop i),0):=k0v (by omega) (by omega) h6.1.1 h6.2 fun m hm hr=>(hall m hm hr).2
 refine yU (zn (zC (zq ?_)))
 refine zI ?_
 refine za 1 ?_
 refine zc (zH (zn (y3 ?_)))
 refine x9 zo yQ (m0v e rfl)
end Go.Proofs.YtojomcdjcpmnkaaGreat.By
namespace Go.Proofs.YtojomcdjcpmnkaaGreat.By
open Go.RowKit L A
attribute [local irreducible] AW AQ AO
def pkM (m:Msg):Msg:=⟨0,m.code,0,[],m.opts,m.pay⟩
def b0J (m:Msg):List UInt8×Int:=
 if rq m.code=true∨rs m.code=true then(if(g0I (pkM m)).2=0 then(u8 m.code::(g0I (pkM m)).1.drop 4,0)else([],(g0I (pkM m)).2))else([],1)
abbrev v0L (r:List UInt8×Int):AV:= .tup [roB r.1,.val (.int .i64 r.2)]
theorem v0b {r:List UInt8×Int}{a:List UInt8}{e:Int}(h:r=(a,e)):Is (v0L r) (.tup [roB a,.val (.int .i64 e)]) []:=by rw[h];exact⟨rfl,rfl⟩
def unB (b:List UInt8):List UInt8:=64::bt b 0::0::0::b.drop 1
noncomputable def a0A (b:List UInt8):Msg×Int:=
 if b= []then(Msg.none,2)else if rq ((bt b 0).toNat:Int)=true∨rs ((bt b 0).toNat:Int)=true then b0W (unB b)else(Msg.none,4)
theorem f0o {r:Msg×Int}{a:Msg}{e:Int}(h:r=(a,e)):Is (h0O r) (.tup [b0n a,.val (.int .i64 e)]) []:=by rw[h];exact⟨rfl,rfl⟩
theorem o0U (m:Msg):4≤(raw m).length:=by simp only[raw,f0y,cH,cL,cE];omega
theorem i0r {m:Msg}(h:(g0I m).2=0):4≤(g0I m).1.length∧(g0I m).1.length≤4096:=by
 by_cases hv:ValM m
 ·rw[n0B hv];exact⟨o0U m,by have:=hv.2;simp only;omega⟩
 rw[n0C hv]at h;cases h
theorem o0G (m:Msg):Sp Tryz.prog 127 [b0n m] [] (Is (v0L (b0J m))):=by
 refine yH Tryz.func127 _ Tryz.ntmps127 (fun w0 R0=> ?_)
 refine zC (zq ?_)
 refine z9 ?_
 intro B1
 refine zc ?_
 refine zc (zH (zn (zC (zC (zq ?_)))))
 refine zt ?_
 refine zA ?_
 refine vO (xD rfl Tryz.func63 rfl rfl rfl (b0M m.code)) ?_
 refine xo ?_
 refine zb ?_
 refine zK ?_
 refine zu 11 ?_
 refine AO.opG rfl rfl rfl (fun hp=>wP 12 rfl (by exact hp) (xD rfl Tryz.func83 rfl rfl rfl (b0G m.code))) ?_
 refine xf 13 ?_
 refine zN (zH (zn ?_))
 refine ym (fun h=> ?_) (fun h=> ?_)<;>(try simp only[vU]at h)
 ·have e:b0J m=([],1):=if_neg (by rw[h.1,h.2];simp)
  refine zC (zq ?_)
  refine zc ?_
  refine zc (zH (zn (y3 (xh ?_))))
  refine x9 yP yu (v0b e)
 have hc:rq m.code=true∨rs m.code=true:=by cases hq:rq m.code<;>simp_all
 refine yU (zn (zC (zq ?_)))
 refine zt ?_
 refine zA ?_
 refine zt ?_
 refine zA ?_
 refine zt ?_
 refine zA ?_
 refine zM ?_
 refine vO (vw rfl Tryz.func120 rfl rfl rfl (i0T (pkM m))) ?_
 refine zb ?_
 refine zW ?_
 refine zW ?_
 refine zc ?_
 refine zc (zH (zn (zC (zC (zq ?_)))))
 refine zb ?_
 refine y8 (zH (zn ?_))
 refine ym (fun h2=> ?_) (fun h2=> ?_)<;>(try simp only[vU]at h2)
 ·have e:b0J m=([],(g0I (pkM m)).2):=by rw[b0J,if_pos hc,if_neg h2]
  refine zC (zq ?_)
  refine zb ?_
  refine zc ?_
  refine zc (zH (zn (y3 (xh ?_))))
  refine x9 yP yu (v0b e)
 have hl:=i0r h2
 have e:b0J m=(u8 m.code::(g0I (pkM m)).1.drop 4,0):=by rw[b0J,if_pos hc,if_pos h2]
 refine yU (zn (zC ?_))
 refine yo 6 ?_
 simp only[cT,cZ,cD,cO]
 refine yn ?_
 refine yM ?_
 refine vP (O.conv rfl rfl d0A) ?_
 refine FA.opN z8 rfl rfl rfl rfl ?_
 refine zE ?_
 refine vP (O.sliceFromB (k:=4) rfl rfl rfl (by rfl) (by omega)) ?_
 refine vf ?_
 simp only[a0g,cN,cA,cP]
 rintro _ _ ⟨B2,rfl,rfl⟩
 simp only[cA,cN]
 refine AO.g ?_
 refine G.closeRow (n:=1) (cap:=1) 0 rfl rfl rfl (Nat.le_refl _) (by(unfold maxLen;omega)) ?_
 refine AO.u ?_
 dsimp only[List.set]
 refine wl 0 ?_
 intro V3 hV3
 refine zc ?_
 refine zc (zH (zn (y3 ?_)))
 refine AQ.g ?_
 refine yj 0 [2] ?_
 refine AQ.u ?_
 try dsimp only[List.map,List.eraseIdx,cA,cN]
 refine AQ.g ?_
 refine G.re 2 (roB (u8 m.code::(g0I (pkM m)).1.drop 4)) (congrArg some (b0r (by rw[cL];omega) rfl)) ?_
 refine AQ.u ?_
 refine x9 yP yQ (v0b e)
theorem n0F {n:Nat}{xs:List AV}{l:List UInt8}(h1:n=l.length)(h2:xs=a0a l)(hl:l.length≤1000000):Sp Tryz.prog 173 [.ro false n xs] [] (Is (h0O (b0W l))):=by
 subst h1;subst h2;exact n0G l hl
theorem k0W {n:Nat}{xs:List AV}{l:List UInt8}(h1:n=l.length)(h2:xs=a0a l)(hl:l.length≤1000000):Sp Tryz.prog 191 [.ro false n xs] [] (Is (h0O (b0W l))):=by
 subst h1;subst h2;exact k0X l hl
theorem h0C {b:List UInt8}(h:0<b.length):a0a (unB b)= [.val (.int .u8 64),.val (.int .u8 ((bt b 0).toNat:Int)),.val (.int .u8 0),.val (.int .u8 0)]++a0a (b.drop 1):=rfl
theorem g0S {b:List UInt8}(h:0<b.length):(unB b).length=b.length+3:=by unfold unB;simp;omega
theorem o0V {m:Msg}{b:List UInt8}(hm:OkM m)(h:raw m=unB b):m.ty=0∧m.id=0∧m.tok= []:=by
 obtain⟨⟨a1,a2, -⟩,⟨a3,a4,a5, -⟩, -⟩:=hm
 have h0:=congrArg (fun l=>bt l 0) h
 have h2:=congrArg (fun l=>bt l 2) h
 have h3:=congrArg (fun l=>bt l 3) h
 have e0:bt (raw m) 0=u8 (64+16*m.ty+m.tok.length):=rfl
 have e2:bt (raw m) 2=u8 (m.id/256):=rfl
 have e3:bt (raw m) 3=u8 m.id:=rfl
 have f0:bt (unB b) 0=64:=rfl
 have f2:bt (unB b) 2=0:=rfl
 have f3:bt (unB b) 3=0:=rfl
 simp only[e0,e2,e3,f0,f2,f3]at h0 h2 h3
 have g0:=a0I (x:=64+16*m.ty+m.tok.length) (by omega)
 have g2:=a0I (x:=m.id/256) (by omega)
 have g3:=c0c m.id
 rw[h0]at g0
 rw[h2]at g2
 rw[h3]at g3
 have k0:((64:UInt8).toNat:Int)=64:=rfl
 have k2:((0:UInt8).toNat:Int)=0:=rfl
 rw[k0]at g0
 rw[k2]at g2 g3
 exact⟨by omega,by omega,List.eq_nil_of_length_eq_zero (by omega)⟩
theorem p0O (b:List UInt8)(h:(b0W (unB b)).2=0):(b0W (unB b)).1.ty=0∧(b0W (unB b)).1.id=0∧(b0W (unB b)).1.tok= []:=by
 have:=n0H h
 exact o0V this.1.1 this.2
theorem n0I (b:List UInt8)(h:(b0W b).2≠0):(b0W b).1=Msg.none:=by
 unfold b0W at h⊢
 (repeat' split)<;>first|rfl|skip
 all_goals simp_all
theorem l0Q (b:List UInt8)(hb:b.length≤900000):Sp Tryz.prog 140 [roB b] [] (Is (h0O (a0A b))):=by
 refine yH Tryz.func140 _ Tryz.ntmps140 (fun w0 R0=> ?_)
 refine zC (zq ?_)
 refine zd ?_
 intro B1
 refine zc (zH (zn (zC (zC (zq ?_)))))
 refine zb ?_
 refine zZ ?_
 refine yi (zH (zn ?_))
 refine ym (fun h=> ?_) (fun h=> ?_)<;>(try simp only[vU]at h)
 ·have e:a0A b=(Msg.none,2):=if_pos (List.eq_nil_of_length_eq_zero (by omega))
  refine zC (zq ?_)
  refine zM ?_
  refine za 0 ?_
  refine zc (zH (zn (y3 (xh ?_))))
  refine x9 zP zk (f0o e)
 have hb0:0<b.length:=by omega
 have hbn:b≠ []:=fun e=>by rw[e]at hb0;cases hb0
 have hub:=b0t (bt b 0)
 refine yU (zn (zC (zC (zq ?_))))
 refine zb ?_
 refine yf ?_
 refine vO (O.loadR rfl rfl (by exact b0a (k:=0) hb0 rfl)) ?_
 refine xM ?_
 refine zc (zH (zn (zC (zq ?_))))
 refine zb ?_
 refine vO (xD rfl Tryz.func152 rfl rfl rfl (g0W _)) ?_
 refine xo ?_
 refine zb ?_
 refine yl ?_
 refine AO.opG rfl rfl rfl (fun hp=>wP 17 rfl (by exact hp) (xD rfl Tryz.func153 rfl rfl rfl (e0P _))) ?_
 refine xf 18 ?_
 refine zN (zH (zn ?_))
 refine ym (fun h2=> ?_) (fun h2=> ?_)<;>(try simp only[vU]at h2)
 ·have e:a0A b=(Msg.none,4):=by rw[a0A,if_neg hbn,if_neg (by rw[h2.1,h2.2];simp)]
  refine zC (zq ?_)
  refine zM ?_
  refine za 0 ?_
  refine zc (zH (zn (y3 (xh ?_))))
  refine x9 zP zk (f0o e)
 have hc:rq ((bt b 0).toNat:Int)=true∨rs ((bt b 0).toNat:Int)=true:=by cases hq:rq ((bt b 0).toNat:Int)<;>simp_all
 have e:a0A b=((b0W (unB b)).1,(b0W (unB b)).2):=by rw[a0A,if_neg hbn,if_pos hc]
 refine yU (zn (zC ?_))
 refine AW.regionM [(0,false),(1,false),(2,false),(4,false),(5,false),(3,true),(6,true),(7,false),(8,false),(9,false),(10,true),(11,false)] (by kernel_rfl) (by kernel_rfl) (by exact(by exact a0h 2 0 rfl rfl a0c)) ?_
 dsimp only[List.eraseIdx]
 refine y0 ?_
 refine vQ rfl yd ?_
 refine vQ rfl (O.loadR rfl rfl (by exact b0a (k:=0) hb0 rfl)) ?_
 refine y0 ?_
 refine vQ rfl (O.sliceFromB (k:=1) rfl rfl rfl (by rfl) (by omega)) ?_
 refine xU _ (fun w0 R0=> ?_)
 refine xH ?_
 intro B2
 refine AO.g ?_
 refine xK B2 4 4 0 rfl rfl rfl (Nat.le_refl _) ?_
 refine AO.u ?_
 dsimp only[List.set]
 refine AM.ok ?_
 dsimp only[a0w]
 refine xU _ (fun w0 R0=> ?_)
 refine wl 0 ?_
 intro V3 hV3
 refine AO.g ?_
 refine yL 0 [28] ?_
 refine AO.u ?_
 dsimp only[List.map,List.eraseIdx,cA,cN]
 refine AM.ok ?_
 dsimp only[a0w]
 refine vQ rfl (xD rfl Tryz.func173 rfl rfl rfl (n0F (by rw[g0S hb0,List.length_drop];omega) (h0C hb0).symm (by rw[g0S hb0];omega))) ?_
 refine vQ rfl yB ?_
 refine vQ rfl yB ?_
 refine xU _ (fun w0 R0=> ?_)
 refine za 0 (AM.okN ?_)
 dsimp only[a0w]
 refine we ?_
 refine vn ?_
 dsimp only[cA,cN]
 refine zn (y3 ?_)
 refine x9 zP yQ (f0o e)
theorem k0S (b:List UInt8)(hb:b.length≤900000):Sp Tryz.prog 174 [roB b] [] (Is (h0O (a0A b))):=by
 refine yH Tryz.func174 _ Tryz.ntmps174 (fun w0 R0=> ?_)
 refine zC (zq ?_)
 refine zd ?_
 intro B1
 refine zc (zH (zn (zC (zC (zq ?_)))))
 refine zb ?_
 refine zZ ?_
 refine yi (zH (zn ?_))
 refine ym (fun h=> ?_) (fun h=> ?_)<;>(try simp only[vU]at h)
 ·have e:a0A b=(Msg.none,2):=if_pos (List.eq_nil_of_length_eq_zero (by omega))
  refine zC (zq ?_)
  refine zM ?_
  refine za 0 ?_
  refine zc (zH (zn (y3 (xh ?_))))
  refine x9 zP zk (f0o e)
 have hb0:0<b.length:=by omega
 have hbn:b≠ []:=fun e=>by rw[e]at hb0;cases hb0
 have hub:=b0t (bt b 0)
 refine yU (zn (zC (zC (zq ?_))))
 refine zb ?_
 refine yf ?_
 refine vO (O.loadR rfl rfl (by exact b0a (k:=0) hb0 rfl)) ?_
 refine xM ?_
 refine zc (zH (zn (zC (zq ?_))))
 refine zb ?_
 refine vO (xD rfl Tryz.func63 rfl rfl rfl (b0M _)) ?_
 refine xo ?_
 refine zb ?_
 refine yl ?_
 refine AO.opG rfl rfl rfl (fun hp=>wP 19 rfl (by exact hp) (xD rfl Tryz.func83 rfl rfl rfl (b0G _))) ?_
 refine xf 20 ?_
 refine zN (zH (zn ?_))
 refine ym (fun h2=> ?_) (fun h2=> ?_)<;>(try simp only[vU]at h2)
 ·have e:a0A b=(Msg.none,4):=by rw[a0A,if_neg hbn,if_neg (by rw[h2.1,h2.2];simp)]
  refine zC (zq ?_)
  refine zM ?_
  refine za 0 ?_
  refine zc (zH (zn (y3 (xh ?_))))
  refine x9 zP zk (f0o e)
 have hc:rq ((bt b 0).toNat:Int)=true∨rs ((bt b 0).toNat:Int)=true:=by cases hq:rq ((bt b 0).toNat:Int)<;>simp_all
 have e:a0A b=((b0W (unB b)).1,(b0W (unB b)).2):=by rw[a0A,if_neg hbn,if_pos hc]
 refine yU (zn (zC ?_))
 refine AW.regionA _ (Al.mk' (i:=11) (d:=5) (T:=29) _ rfl rfl rfl rfl rfl (by(dsimp only[List.set,cA,cN,List.take,List.drop];done)) (by rfl)) [(0,false),(1,false),(2,false),(4,false),(5,false),(3,true),(6,true),(7,false),(8,false),(9,false),(10,false),(11,true),(12,true),(13,false)] (by kernel_rfl) (by kernel_rfl) (by exact a0c) ?_
 dsimp only[List.eraseIdx]
 refine wW ?_
 refine vR rfl yd ?_
 refine vR rfl (O.loadR rfl rfl (by exact b0a (k:=0) hb0 rfl)) ?_
 refine wW ?_
 refine vR rfl (O.sliceFromB (k:=1) rfl rfl rfl (by rfl) (by omega)) ?_
 refine AN.main _ rfl rfl (fun w0 R0=> ?_)
 refine xH ?_
 intro B2
 refine AO.g ?_
 refine xK B2 4 4 0 rfl rfl rfl (Nat.le_refl _) ?_
 refine AO.u ?_
 dsimp only[List.set]
 refine AM.ok ?_
 dsimp only[a0w]
 refine AN.main _ rfl rfl (fun w0 R0=> ?_)
 refine wl 0 ?_
 intro V3 hV3
 refine AO.g ?_
 refine yL 0 [31] ?_
 refine AO.u ?_
 dsimp only[List.map,List.eraseIdx,cA,cN]
 refine AM.ok ?_
 dsimp only[a0w]
 refine vR rfl (xD rfl Tryz.func191 rfl rfl rfl (k0W (by rw[g0S hb0,List.length_drop];omega) (h0C hb0).symm (by rw[g0S hb0];omega))) ?_
 refine wW ?_
 refine vR rfl yB ?_
 refine vR rfl yB ?_
 refine AN.box rfl ?_
 intro B4
 dsimp only[Al.he]
 refine AN.main _ rfl rfl (fun w0 R0=> ?_)
 refine za 0 (AM.okN ?_)
 dsimp only[a0w]
 refine vR rfl zi ?_
 refine AN.nil ?_
 dsimp only[cA,cN]
 refine zn (zC (zC (zq ?_)))
 refine zb ?_
 refine y8 (zH (zn ?_))
 refine ym (fun h5=> ?_) (fun h5=> ?_)<;>(try simp only[vU]at h5)
 ·have e2:a0A b=(Msg.none,(b0W (unB b)).2):=by rw[e,n0I _ h5]
  refine zC (zq ?_)
  refine zM ?_
  refine zb ?_
  refine za 1 ?_
  refine zc (zH (zn (y3 (xh ?_))))
  refine x9 zo zk (f0o e2)
 have hz:=p0O b h5
 have e2:a0A b=(⟨0,(b0W (unB b)).1.code,0,[],(b0W (unB b)).1.opts,(b0W (unB b)).1.pay⟩,0):=by
  rw[e,h5]
  refine congrArg (fun z=>(z,(0:Int))) ?_
  generalize(b0W (unB b)).1=m at hz
  obtain⟨ty,code,id,tok,opts,pay⟩:=m
  obtain⟨rfl,rfl,rfl⟩:=hz
  rfl
 refine yU (zn (zC (zq ?_)))
 refine zt ?_
 refine zA ?_
 refine zt ?_
 refine zA ?_
 refine zt ?_
 refine zA ?_
 refine zM ?_
 refine za 1 ?_
 refine zc (zH (zn (y3 ?_)))
 refine x9 zo zk (f0o e2)
abbrev pt (b:Nat):AV:= .val (.pointer (some ⟨b,0,none⟩))
abbrev stB (b:Nat)(f:Nat→UInt8):HE:= .blk b 185 16 (arB 16 f)
theorem l0Y {b:Nat}{f g:Nat→UInt8}(h: ∀q,q<16→f q=g q): [stB b f]= [stB b g]:=congrArg (fun x=> [HE.blk b 185 16 x]) (a0d h)
theorem g0V {b:Nat}{f g:Nat→UInt8}(h: ∀q,q<16→f q=g q):stB b f=stB b g:=congrArg (fun x=>HE.blk b 185 16 x) (a0d h)
theorem i0P (b:Nat)(f k:Nat→UInt8):Sp Tryz.prog 206 [pt b,.agg (arB 16 k)] [stB b f] (IsM (.val (.tuple #[])) (stB b fun q=>f q^^^k q)):=by
 refine yH Tryz.func206 _ Tryz.ntmps206 (fun w0 R0=> ?_)
 refine zC (zq ?_)
 refine z9 ?_
 intro B1
 refine zH (zn (zC (zq ?_)))
 refine zb (zH (zn (xb ?_)))
 refine zh [(0,_),(3,_)] (fun nn E H=> ∃(i:Nat),(i≤16)∧nn=16-i∧E= [(5,.val (.int .i64 (i:Int)))]∧H= [.blk B1 185 16 (arB 16 k),stB b (fun q=>if q<i then f q^^^k q else f q)]) _ (⟨0,by omega,rfl,rfl,rfl⟩) ?_
 rintro nn E H ⟨i,hi,rfl,rfl,rfl⟩
 dsimp only[cA,cN]
 refine zC (zq ?_)
 refine zR (zH (zn (zC ?_)))
 refine ym (fun h=> ?_) (fun h=> ?_)<;>(try simp only[vU]at h)
 ·refine yU (zn (zC (xb (zC (zq ?_)))))
  refine zb ?_
  refine zc (zH (zn ?_))
  refine yo 11 ?_
  simp only[cT,cZ,cD,cO]
  refine zE ?_
  refine zE ?_
  refine vP vM ?_
  refine yO ?_
  refine vP (O.load rfl rfl mM (by exact a0p (k:=i) (by omega) (by omega))) ?_
  refine zE ?_
  refine yO ?_
  refine vP (O.load rfl rfl (by repeat(exact List.Mem.head _)) (by exact a0p (k:=i) (by omega) (by omega))) ?_
  refine wy ?_
  refine vP vM ?_
  refine yO ?_
  refine vf ?_
  simp only[a0g,cN,cA,cP]
  refine yF 1 rfl rfl rfl rfl rfl rfl (by rfl) (by rfl) (by exact Nat.ble_eq_true_of_le (by rw[a0b];omega)) (by exact a0K (k:=i) (by omega) _ (by omega)) (zH (xA (zn (zq ?_))))
  refine zx ?_
  refine zb (zH ?_)
  have e:stB b (fun q=>if q=i then(if i<i then f i^^^k i else f i)^^^k i else if q<i then f q^^^k q else f q)=stB b (fun q=>if q<i+1 then f q^^^k q else f q):=g0V fun q _=>by
   rcases Nat.lt_trichotomy q i with h1|rfl|h1
   ·rw[if_neg (by omega),if_pos h1,if_pos (by omega)]
   ·rw[if_pos rfl,if_neg (by omega),if_pos (by omega)]
   rw[if_neg (by omega),if_neg (by omega),if_neg (by omega)]
  refine zr _ _ _ (by omega) (⟨i+1,by omega,rfl,rfl,congrArg (fun x=> [HE.blk B1 185 16 (arB 16 k),x]) e⟩)
 obtain rfl:i=16:=by omega
 refine wm ?_
 refine xY ?_
 refine wa ?_
 refine xq ?_
 have e: [stB b (fun q=>if q<16 then f q^^^k q else f q)]= [stB b (fun q=>f q^^^k q)]:=l0Y fun q hq=>if_pos hq
 refine AQ.retN (AQ.ret0 rfl ⟨_,by repeat(first|exact List.Sublist.slnil|refine List.Sublist.cons_cons _ ?_|refine List.Sublist.cons _ ?_),List.Perm.refl _⟩ (⟨rfl,e⟩))
theorem l0R (v:UInt8):0≤(v.toNat:Int)∧(v.toNat:Int)<((256:Nat):Int):=by have:=v.toNat_lt;omega
def j0D (xs:List AV)(o:Nat)(S:UInt8→UInt8):Prop:= ∀v:UInt8,xs[o+v.toNat]? =some (by8 (S v))
def shF (S:UInt8→UInt8)(d:Nat)(f:Nat→UInt8)(i:Nat):UInt8:=S (f (i%4+4*((i/4+d*(i%4))%4)))
theorem r0p {i:Nat}(hi:i<16)(f:Nat→UInt8):(arB 16 f)[0+((i:Int)%4+4*(((i:Int)/4+1*((i:Int)%4))%4)).toNat*1]? =some (by8 (f (i%4+4*((i/4+1*(i%4))%4)))):=
 a0p (by omega) (by
  have:((i:Int)%4+4*(((i:Int)/4+1*((i:Int)%4))%4))=((i%4+4*((i/4+1*(i%4))%4):Nat):Int):=by push_cast;rfl
  rw[this,Int.toNat_natCast];omega)
theorem e0s {xs:List AV}{o:Nat}{S:UInt8→UInt8}(h:j0D xs o S)(v:UInt8):xs[o+(v.toNat:Int).toNat*1]? =some (by8 (S v)):=by rw[Int.toNat_natCast,Nat.mul_one];exact h v
theorem m0h (b:Nat)(f:Nat→UInt8)(xs:List AV)(o:Nat)(S:UInt8→UInt8)(hS:j0D xs o S):Sp Tryz.prog 207 [pt b,.rp xs o,.val (.int .i64 1)] [stB b f] (IsM (.val (.tuple #[])) (stB b (shF S 1 f))):=by
 refine yH Tryz.func207 _ Tryz.ntmps207 (fun w0 R0=> ?_)
 refine zC (zq ?_)
 refine zb ?_
 refine vB ?_
 refine zI ?_
 refine zd ?_
 intro B1
 refine AO.store (i:=0) rfl rfl rfl rfl rfl rfl (by rfl) (by rfl) (by rfl) (by exact b0C rfl) (by(dsimp only[List.set,cA,cN,List.take,List.drop];done)) (zH (zn (zC (zq ?_))))
 refine zb (zH (zn (xb ?_)))
 refine zh [(0,_),(1,_),(2,_),(6,_)] (fun nn E H=> ∃(i:Nat),(i≤16)∧nn=16-i∧E= [(13,.val (.int .i64 (i:Int)))]∧H= [.blk B1 185 16 (arB 16 f),stB b (fun q=>if q<i then shF S 1 f q else f q)]) _ (⟨0,by omega,rfl,rfl,rfl⟩) ?_
 rintro nn E H ⟨i,hi,rfl,rfl,rfl⟩
 dsimp only[cA,cN]
 refine zC (zq ?_)
 refine zR (zH (zn (zC ?_)))
 refine ym (fun h=> ?_) (fun h=> ?_)<;>(try simp only[vU]at h)
 ·have hi':i<16:=by omega
  refine yU (zn (zC (xb (zC (zq ?_)))))
  refine zb ?_
  refine zc (zH (zn (zC (zq ?_))))
  refine zb ?_
  refine ww ?_
  refine zb ?_
  refine wQ ?_
  refine zc ?_
  refine zc (zH (zn ?_))
  refine yo 19 ?_
  simp only[cT,cZ,cD,cO]
  refine zE ?_
  refine zE ?_
  refine zE ?_
  refine zE ?_
  refine zE ?_
  refine zE ?_
  refine zE ?_
  refine xi ?_
  refine xa ?_
  refine vP x3 ?_
  refine xi ?_
  refine xa ?_
  refine xc ?_
  refine vP (O.load rfl rfl (by repeat(exact List.Mem.head _)) (by exact r0p hi' f)) ?_
  refine vP (O.nilCheckR rfl rfl) ?_
  refine vP (O.idxLR rfl rfl rfl (by exact l0R _)) ?_
  refine vP (O.loadR rfl rfl (by exact e0s hS _)) ?_
  refine vP vM ?_
  refine xc ?_
  refine vf ?_
  simp only[a0g,cN,cA,cP]
  refine yF 1 rfl rfl rfl rfl rfl rfl (by rfl) (by rfl) (by exact Nat.ble_eq_true_of_le (by rw[a0b];omega)) (by exact a0K (k:=i) (by omega) _ (by omega)) (zH (xA (zn (zq ?_))))
  refine zx ?_
  refine zb (zH ?_)
  have e:stB b (fun q=>if q=i then shF S 1 f i else if q<i then shF S 1 f q else f q)=stB b (fun q=>if q<i+1 then shF S 1 f q else f q):=g0V fun q _=>by
   rcases Nat.lt_trichotomy q i with h1|rfl|h1
   ·rw[if_neg (by omega),if_pos h1,if_pos (by omega)]
   ·rw[if_pos rfl,if_pos (by omega)]
   rw[if_neg (by omega),if_neg (by omega),if_neg (by omega)]
  refine zr _ _ _ (by omega) (⟨i+1,by omega,rfl,rfl,congrArg (fun x=> [HE.blk B1 185 16 (arB 16 f),x]) e⟩)
 obtain rfl:i=16:=by omega
 refine wm ?_
 refine xY ?_
 refine wa ?_
 refine xq ?_
 have e: [stB b (fun q=>if q<16 then shF S 1 f q else f q)]= [stB b (shF S 1 f)]:=l0Y fun q hq=>if_pos hq
 refine AQ.retN (AQ.ret0 rfl ⟨_,by repeat(first|exact List.Sublist.slnil|refine List.Sublist.cons_cons _ ?_|refine List.Sublist.cons _ ?_),List.Perm.refl _⟩ (⟨rfl,e⟩))
def q0B (f m:Nat→UInt8)(i:Nat):Nat→UInt8
 |0=>0
 |k+1=>q0B f m i k^^^l0b (f (4*(i/4)+(i%4+k)%4)) (m k)
def g0b (f m:Nat→UInt8)(i:Nat):UInt8:=q0B f m i 4
theorem t0J {i k:Nat}(hi:i<16)(f:Nat→UInt8):(arB 16 f)[0+(4*((i:Int)/4)+((i:Int)%4+(k:Int))%4).toNat*1]? =some (by8 (f (4*(i/4)+(i%4+k)%4))):=
 a0p (by omega) (by
  have:(4*((i:Int)/4)+((i:Int)%4+(k:Int))%4)=((4*(i/4)+(i%4+k)%4:Nat):Int):=by push_cast;rfl
  rw[this,Int.toNat_natCast];omega)
def q0A (f m:Nat→UInt8)(i k q:Nat):UInt8:=if q=i then q0B f m i k else if q<i then g0b f m q else f q
theorem t0I (b:Nat)(f m:Nat→UInt8):Sp Tryz.prog 208 [pt b,.agg (arB 4 m)] [stB b f] (IsM (.val (.tuple #[])) (stB b (g0b f m))):=by
 refine yH Tryz.func208 _ Tryz.ntmps208 (fun w0 R0=> ?_)
 refine zC (zq ?_)
 refine z9 ?_
 intro B1
 refine zH (zn (zC (zq ?_)))
 refine zb ?_
 refine vB ?_
 refine zw ?_
 refine zd ?_
 intro B2
 refine AO.store (i:=0) rfl rfl rfl rfl rfl rfl (by rfl) (by rfl) (by rfl) (by exact b0C rfl) (by(dsimp only[List.set,cA,cN,List.take,List.drop];done)) (zH (zn (zC (zq ?_))))
 refine zb (zH (zn (xb ?_)))
 refine xZ [(0,_),(3,_),(4,_)] (fun nn E H=> ∃(i:Nat),(i≤16)∧nn=16-i∧E= [(12,.val (.int .i64 (i:Int)))]∧H= [.blk B1 215 4 (arB 4 m),.blk B2 185 16 (arB 16 f),stB b (fun q=>if q<i then g0b f m q else f q)]) _ (⟨0,by omega,rfl,rfl,rfl⟩) ?_
 rintro nn E H ⟨i,hi,rfl,rfl,rfl⟩
 dsimp only[cA,cN]
 refine zC (zq ?_)
 refine zR (zH (zn (zC ?_)))
 refine ym (fun h=> ?_) (fun h=> ?_)<;>(try simp only[vU]at h)
 ·have hi':i<16:=by omega
  refine yU (zn (zC (xb (zC (zq ?_)))))
  refine zb ?_
  refine zc (zH (zn (zC (zq ?_))))
  refine zb ?_
  refine ww ?_
  refine zb ?_
  refine wQ ?_
  refine zc ?_
  refine zc (zH (zn (zC (zq ?_))))
  refine zb ?_
  refine zb ?_
  refine vB ?_
  refine xO ?_
  refine yF 2 rfl rfl rfl rfl rfl rfl (by rfl) (by rfl) (by exact Nat.ble_eq_true_of_le (by rw[a0b];omega)) (by exact a0K (k:=i) (by omega) 0 (by omega)) (zH (zn (zC (zq ?_))))
  refine zb (zH (zn (xb ?_)))
  have e0:stB b (fun q=>if q=i then 0 else if q<i then g0b f m q else f q)=stB b (q0A f m i 0):=rfl
  refine zh [(0,_),(3,_),(4,_),(5,_),(6,_),(7,_),(12,_)] (fun nn E H=> ∃(k:Nat),(k≤4)∧nn=4-k∧E= [(23,.val (.int .i64 (k:Int)))]∧H= [.blk B1 215 4 (arB 4 m),.blk B2 185 16 (arB 16 f),stB b (q0A f m i k)]) _ (⟨0,by omega,rfl,rfl,rfl⟩) ?_
  rintro nn E H ⟨k,hk,rfl,rfl,rfl⟩
  dsimp only[cA,cN]
  refine zC (zq ?_)
  refine zR (zH (zn (zC ?_)))
  refine ym (fun h2=> ?_) (fun h2=> ?_)<;>(try simp only[vU]at h2)
  ·have hk':k<4:=by omega
   refine yU (zn (zC (xb (zC (zq ?_)))))
   refine zb ?_
   refine zc (zH (zn ?_))
   refine yo 21 ?_
   simp only[cT,cZ,cD,cO]
   refine zE ?_
   refine zE ?_
   refine vP vM ?_
   refine xc ?_
   refine vP (O.load rfl rfl mM (by exact a0p (k:=i) (by omega) (by omega))) ?_
   refine zE ?_
   refine xi ?_
   refine zE ?_
   refine zE ?_
   refine xa ?_
   refine vP x3 ?_
   refine xa ?_
   refine xc ?_
   refine vP (O.load rfl rfl mM (by exact t0J hi' f)) ?_
   refine zE ?_
   refine xc ?_
   refine vP (O.load rfl rfl (by repeat(exact List.Mem.head _)) (by exact a0p (k:=k) (by omega) (by omega))) ?_
   refine vP (xD rfl Tryz.func212 rfl rfl rfl (l0a _ _)) ?_
   refine wy ?_
   refine vP vM ?_
   refine xc ?_
   refine vf ?_
   simp only[a0g,cN,cA,cP]
   refine yF 2 rfl rfl rfl rfl rfl rfl (by rfl) (by rfl) (by exact Nat.ble_eq_true_of_le (by rw[a0b];omega)) (by exact a0K (k:=i) (by omega) _ (by omega)) (zH (xA (zn (zq ?_))))
   refine zx ?_
   refine zb (zH ?_)
   have e:stB b (fun q=>if q=i then q0A f m i k i^^^l0b (f (4*(i/4)+(i%4+k)%4)) (m k)else q0A f m i k q)=stB b (q0A f m i (k+1)):=g0V fun q _=>by
    unfold q0A
    by_cases h1:q=i
    ·rw[if_pos h1,if_pos h1,if_pos rfl];rfl
    rw[if_neg h1,if_neg h1,if_neg h1]
   refine zr _ _ _ (by omega) (⟨k+1,by omega,rfl,rfl,congrArg (fun x=> [HE.blk B1 215 4 (arB 4 m),HE.blk B2 185 16 (arB 16 f),x]) e⟩)
  obtain rfl:k=4:=by omega
  refine wm ?_
  refine xY ?_
  refine wa ?_
  refine xq (xA (zn (zq ?_)))
  refine zx ?_
  refine zb (zH ?_)
  have e:stB b (q0A f m i 4)=stB b (fun q=>if q<i+1 then g0b f m q else f q):=g0V fun q _=>by
   unfold q0A
   rcases Nat.lt_trichotomy q i with h1|rfl|h1
   ·rw[if_neg (by omega),if_pos h1,if_pos (by omega)]
   ·rw[if_pos rfl,if_pos (by omega)];rfl
   rw[if_neg (by omega),if_neg (by omega),if_neg (by omega)]
  refine zr _ _ _ (by omega) (⟨i+1,by omega,rfl,rfl,congrArg (fun x=> [HE.blk B1 215 4 (arB 4 m),HE.blk B2 185 16 (arB 16 f),x]) e⟩)
 obtain rfl:i=16:=by omega
 refine wm ?_
 refine xY ?_
 refine wa ?_
 refine xq ?_
 have e: [stB b (fun q=>if q<16 then g0b f m q else f q)]= [stB b (g0b f m)]:=l0Y fun q hq=>if_pos hq
 refine AQ.retN (AQ.ret0 rfl ⟨_,by repeat(first|exact List.Sublist.slnil|refine List.Sublist.cons_cons _ ?_|refine List.Sublist.cons _ ?_),List.Perm.refl _⟩ (⟨rfl,e⟩))
def PW:List UInt8:= [1,3,5,15,17,51,85,255,26,46,114,150,161,248,19,53,95,225,56,72,216,115,149,164,247,2,6,10,30,34,102,170,229,52,92,228,55,89,235,38,106,190,217,112,144,171,230,49,83,245,4,12,20,60,68,204,79,209,104,184,211,110,178,205,76,212,103,169,224,59,77,215,98,166,241,8,24,40,120,136,131,158,185,208,107,189,220,127,129,152,179,206,73,219,118,154,181,196,87,249,16,48,80,240,11,29,39,105,187,214,97,163,254,25,43,125,135,146,173,236,47,113,147,174,233,32,96,160,251,22,58,78,210,109,183,194,93,231,50,86,250,21,63,65,195,94,226,61,71,201,64,192,91,237,44,116,156,191,218,117,159,186,213,100,172,239,42,126,130,157,188,223,122,142,137,128,155,182,193,88,232,35,101,175,234,37,111,177,200,67,197,84,252,31,33,99,165,244,7,9,27,45,119,153,176,203,70,202,69,207,74,222,121,139,134,145,168,227,62,66,198,81,243,14,18,54,90,238,41,123,141,140,143,138,133,148,167,242,13,23,57,75,221,124,132,151,162,253,28,36,108,180,199,82,246,1]
def SB:List UInt8:= [99,124,119,123,242,107,111,197,48,1,103,43,254,215,171,118,202,130,201,125,250,89,71,240,173,212,162,175,156,164,114,192,183,253,147,38,54,63,247,204,52,165,229,241,113,216,49,21,4,199,35,195,24,150,5,154,7,18,128,226,235,39,178,117,9,131,44,26,27,110,90,160,82,59,214,179,41,227,47,132,83,209,0,237,32,252,177,91,106,203,190,57,74,76,88,207,208,239,170,251,67,77,51,133,69,249,2,127,80,60,159,168,81,163,64,143,146,157,56,245,188,182,218,33,16,255,243,210,205,12,19,236,95,151,68,23,196,167,126,61,100,93,25,115,96,129,79,220,34,42,144,136,70,238,184,20,222,94,11,219,224,50,58,10,73,6,36,92,194,211,172,98,145,149,228,121,231,200,55,109,141,213,78,169,108,86,244,234,101,122,174,8,186,120,37,46,28,166,180,198,232,221,116,31,75,189,139,138,112,62,181,102,72,3,246,14,97,53,87,185,134,193,29,158,225,248,152,17,105,217,142,148,155,30,135,233,206,85,40,223,140,161,137,13,191,230,66,104,65,153,45,15,176,84,187,22]
def IV:List UInt8:= [82,9,106,213,48,54,165,56,191,64,163,158,129,243,215,251,124,227,57,130,155,47,255,135,52,142,67,68,196,222,233,203,84,123,148,50,166,194,35,61,238,76,149,11,66,250,195,78,8,46,161,102,40,217,36,178,118,91,162,73,109,139,209,37,114,248,246,100,134,104,152,22,212,164,92,204,93,101,182,146,108,112,72,80,253,237,185,218,94,21,70,87,167,141,157,132,144,216,171,0,140,188,211,10,247,228,88,5,184,179,69,6,208,44,30,143,202,63,15,2,193,175,189,3,1,19,138,107,58,145,17,65,79,103,220,234,151,242,207,206,240,180,230,115,150,172,116,34,231,173,53,133,226,249,55,232,28,117,223,110,71,241,26,113,29,41,197,137,111,183,98,14,170,24,190,27,252,86,62,75,198,210,121,32,154,219,192,254,120,205,90,244,31,221,168,51,136,7,199,49,177,18,16,89,39,128,236,95,96,81,127,169,25,181,74,13,45,229,122,159,147,201,156,239,160,224,59,77,174,42,245,176,200,235,187,60,131,83,153,97,23,43,4,126,186,119,214,38,225,105,20,99,85,33,12,125]
def LG:List Nat:= [255,0,25,1,50,2,26,198,75,199,27,104,51,238,223,3,100,4,224,14,52,141,129,239,76,113,8,200,248,105,28,193,125,194,29,181,249,185,39,106,77,228,166,114,154,201,9,120,101,47,138,5,33,15,225,36,18,240,130,69,53,147,218,142,150,143,219,189,54,208,206,148,19,92,210,241,64,70,131,56,102,221,253,48,191,6,139,98,179,37,226,152,34,136,145,16,126,110,72,195,163,182,30,66,58,107,40,84,250,133,61,186,43,121,10,21,155,159,94,202,78,212,172,229,243,115,167,87,175,88,168,80,244,234,214,116,79,174,233,213,231,230,173,232,44,215,117,122,235,22,11,245,89,203,95,176,156,169,81,160,127,12,246,111,23,196,73,236,216,67,31,45,164,118,123,183,204,187,62,90,251,96,177,134,59,82,161,108,170,85,41,157,151,178,135,144,97,190,220,252,188,149,207,205,55,63,91,209,83,57,132,60,65,162,109,71,20,42,158,93,86,242,211,171,68,17,146,217,35,32,46,137,180,124,184,38,119,153,227,165,103,74,237,222,197,49,254,24,13,99,140,128,192,247,112,7]
def pw (i:Nat):UInt8:=PW.getD i 0
def sb (v:UInt8):UInt8:=SB.getD v.toNat 0
def iv (v:UInt8):UInt8:=IV.getD v.toNat 0
def lg (v:UInt8):Nat:=LG.getD v.toNat 0
def tA (i:Nat):UInt8:=if i<255 then pw i else 0
def tB (i:Nat):UInt8:=if i<255 then pw ((255-i)%255)else 0
def tC (i k:Nat):UInt8:=match k with
 |0=>tB i^^^99
 |k+1=>tC i k^^^u0x (tB i) (k+1)
theorem r0O: ∀i,i<255→pw (i+1)=pw i^^^dbl (pw i):=by decide +kernel
theorem l0T: ∀i,i<256→lg (tA i)=i∧sb (tA i)=tC i 4∧iv (tC i 4)=tA i:=by decide +kernel
theorem t0i: ∀n,n<256→tA (lg (UInt8.ofNat n))=UInt8.ofNat n∧lg (UInt8.ofNat n)<256:=by decide +kernel
theorem v0n: ∀n,n<256→iv (sb (UInt8.ofNat n))=UInt8.ofNat n∧sb (iv (UInt8.ofNat n))=UInt8.ofNat n:=by decide +kernel
instance :TyN Tryz.prog 183 512 512 (.agg ⟨List.replicate 512 (.int .u8 0)⟩):=⟨Tryz.t183,Tryz.type183,rfl,rfl,by kernel_rfl⟩
theorem f0d (n:Nat):List.map AV.val (List.replicate n (.int .u8 0))=arB n (fun _=>0):=by
 rw[c0D,List.map_replicate]
 apply List.ext_getElem?
 intro q
 by_cases h:q<n<;>simp[h]
theorem c0x {q:Nat}(hq:q<256){v:UInt8}:UInt8.ofNat q=v↔q=v.toNat:=by
 constructor
 ·rintro rfl;rw[UInt8.toNat_ofNat_of_lt' (by simpa[UInt8.size]using hq)]
 rintro rfl;exact UInt8.ofNat_toNat
theorem u0T (v:UInt8):tA (lg v)=v:=by have:=(t0i v.toNat v.toNat_lt).1;rwa [UInt8.ofNat_toNat]at this
theorem s0h (v:UInt8):lg v<256:=by have:=(t0i v.toNat v.toNat_lt).2;rwa [UInt8.ofNat_toNat]at this
theorem u0X (v:UInt8):sb (iv v)=v:=by have:=(v0n v.toNat v.toNat_lt).2;rwa [UInt8.ofNat_toNat]at this
theorem k0n {i:Nat}(hi:i<256){v:UInt8}:lg v=i↔v=tA i:=by
 constructor
 ·intro h;rw[←h];exact(u0T v).symm
 rintro rfl;exact(l0T i hi).1
def tT (i q:Nat):UInt8:=if q<256 then(if lg (UInt8.ofNat q)<i then sb (UInt8.ofNat q)else 0)else(if lg (iv (UInt8.ofNat (q-256)))<i then iv (UInt8.ofNat (q-256))else 0)
def TB (q:Nat):UInt8:=if q<256 then sb (UInt8.ofNat q)else iv (UInt8.ofNat (q-256))
theorem r0g {i:Nat}(hi:i<256)(q:Nat)(hq:q<512):(if q=256+(tC i 4).toNat then tA i else if q=(tA i).toNat then tC i 4 else tT i q)=tT (i+1) q:=by
 obtain⟨h1,h2,h3⟩:=l0T i hi
 have ha:=(tA i).toNat_lt
 unfold tT
 by_cases hq2:q<256
 ·rw[if_neg (by omega),if_pos hq2,if_pos hq2]
  by_cases e:q=(tA i).toNat
  ·rw[if_pos e]
   have:UInt8.ofNat q=tA i:=(c0x hq2).2 e
   rw[this,h1,if_pos (by omega),h2]
  rw[if_neg e]
  have:lg (UInt8.ofNat q)≠i:=fun hh=>e ((c0x hq2).1 ((k0n hi).1 hh))
  by_cases hl:lg (UInt8.ofNat q)<i
  ·rw[if_pos hl,if_pos (by omega)]
  rw[if_neg hl,if_neg (by omega)]
 rw[if_neg hq2,if_neg hq2]
 by_cases e:q=256+(tC i 4).toNat
 ·rw[if_pos e]
  have:UInt8.ofNat (q-256)=tC i 4:=(c0x (by omega)).2 (by omega)
  rw[this,h3,h1,if_pos (by omega)]
 rw[if_neg e,if_neg (by omega)]
 have:lg (iv (UInt8.ofNat (q-256)))≠i:=fun hh=>e (by
  have h4:=(k0n hi).1 hh
  have h5:=u0X (UInt8.ofNat (q-256))
  rw[h4,h2]at h5
  have:=(c0x (q:=q-256) (by omega)).1 h5.symm
  omega)
 by_cases hl:lg (iv (UInt8.ofNat (q-256)))<i
 ·rw[if_pos hl,if_pos (by omega)]
 rw[if_neg hl,if_neg (by omega)]
theorem t0j (q:Nat):tT 256 q=TB q:=by
 unfold tT TB
 rw[if_pos (s0h _),if_pos (s0h _)]
theorem u0l:j0D (arB 512 TB) 0 sb:=fun v=>by
 have:=v.toNat_lt
 rw[a0p (k:=v.toNat) (by omega) (by omega),TB,if_pos (by omega),UInt8.ofNat_toNat]
theorem t0a (a:UInt8):Go.bits .xor .u8 (a.toNat:Int) 99=((a^^^99).toNat:Int):=c0E (p:=fun a=>Go.bits .xor .u8 (a.toNat:Int) 99=((a^^^99).toNat:Int)) (by decide +kernel) a
theorem r0h:Sp Tryz.prog 177 [] [] (Is (.agg (arB 512 TB))):=by
 refine yH Tryz.func177 _ Tryz.ntmps177 (fun w0 R0=> ?_)
 refine zC (zq ?_)
 refine wA ?_
 intro B1
 refine zH (zn (zC (zq ?_)))
 refine wA ?_
 intro B2
 refine zH (zn (zC (zq ?_)))
 refine zc (zH (zn (zC (zC (zq ?_)))))
 refine zb (zH (zn (xb ?_)))
 have e0:arB 256 (fun _=>0)=arB 256 (fun q=>if q<0 then pw q else 0):=a0d fun q _=>(if_neg (by omega)).symm
 rw[e0]
 refine zh [(0,_),(1,_)] (fun nn E H=> ∃(i:Nat),(i≤255)∧nn=255-i∧E= [(2,by8 (pw i)),(10,.val (.int .i64 (i:Int)))]∧H= [.blk B2 181 256 (arB 256 (fun q=>if q<i then pw q else 0)),.blk B1 183 512 (arB 512 fun _=>0)]) _ (⟨0,by omega,rfl,rfl,rfl⟩) ?_
 rintro nn E H ⟨i,hi,rfl,rfl,rfl⟩
 dsimp only[cA,cN]
 refine zC (zq ?_)
 refine zR (zH (zn (zC ?_)))
 refine ym (fun h=> ?_) (fun h=> ?_)<;>(try simp only[vU]at h)
 ·refine yU (zn (zC (xb (zC (zq ?_)))))
  refine zb ?_
  refine zc (zH (zn (zC (zq ?_))))
  refine zb ?_
  refine zb ?_
  refine xO ?_
  refine yF 0 rfl rfl rfl rfl rfl rfl (by rfl) (by rfl) (by exact Nat.ble_eq_true_of_le (by rw[a0b];omega)) (by exact a0K (k:=i) (by omega) _ (by omega)) (zH (zn (zq ?_)))
  refine zb ?_
  refine zb ?_
  refine vO (xD rfl Tryz.func195 rfl rfl rfl (k0w _)) ?_
  refine vE ?_
  refine zc (zH (xA (zn (zq ?_))))
  refine zx ?_
  refine zb (zH ?_)
  have e1:arB 256 (fun q=>if q=i then pw i else if q<i then pw q else 0)=arB 256 (fun q=>if q<i+1 then pw q else 0):=a0d fun q _=>by
   rcases Nat.lt_trichotomy q i with h1|rfl|h1
   ·rw[if_neg (by omega),if_pos h1,if_pos (by omega)]
   ·rw[if_pos rfl,if_pos (by omega)]
   rw[if_neg (by omega),if_neg (by omega),if_neg (by omega)]
  rw[←r0O i (by omega),e1]
  refine zr _ _ _ (by omega) (⟨i+1,by omega,rfl,rfl,rfl⟩)
 obtain rfl:i=255:=by omega
 refine wm ?_
 refine xY ?_
 refine wa ?_
 refine xq (zn (zC (zq ?_)))
 refine wA ?_
 intro B3
 refine zH (zn (zC (zC (zq ?_))))
 refine zb (zH (zn (xb ?_)))
 obtain⟨PB,hPB⟩: ∃PB,PB=arB 256 (fun q=>if q<255 then pw q else 0):=⟨_,rfl⟩
 have hpg: ∀k,k<255→PB[k]? =some (by8 (pw k)):=fun k hk=>by rw[hPB,a0p (k:=k) (by omega) rfl,if_pos hk]
 rw[←hPB]
 have e2:arB 512 (fun _=>0)=arB 512 (tT 0):=a0d fun q _=>by unfold tT;simp
 rw[e2]
 refine zh [(0,_),(1,_),(4,_)] (fun nn E H=> ∃(i:Nat),(i≤256)∧nn=256-i∧E= [(21,.val (.int .i64 (i:Int)))]∧H= [.blk B3 183 512 (arB 512 (tT i)),.blk B2 181 256 PB,.blk B1 183 512 (arB 512 (tT 0))]) _ (⟨0,by omega,rfl,rfl,rfl⟩) ?_
 rintro nn E H ⟨i,hi2,rfl,rfl,rfl⟩
 dsimp only[cA,cN]
 refine zC (zq ?_)
 refine zR (zH (zn (zC ?_)))
 refine ym (fun h2=> ?_) (fun h2=> ?_)<;>(try simp only[vU]at h2)
 ·have hAl:=(tA i).toNat_lt
  have hCl:=(tC i 4).toNat_lt
  refine yU (zn (zC (xb (zC (zq ?_)))))
  refine zb ?_
  refine zc (zH (zn (zC (zq ?_))))
  refine zc ?_
  refine zc (zH (zn (zC (zC (zq ?_)))))
  refine zb ?_
  refine zR (zH (zn ?_))
  refine wh True [(0,_),(1,_),(4,_),(21,_)] [(6,by8 (tA i)),(7,by8 (tB i))] [.blk B3 183 512 (arB 512 (tT i)),.blk B2 181 256 PB,.blk B1 183 512 (arB 512 (tT 0))] (fun h24=> ?_) (fun h24=> ?_) (fun hj=> ?_)<;>try(try simp only[vU]at h24)
  ·have hg1:PB[0+(i:Int).toNat*1]? =some (by8 (tA i)):=by
    rw[show 0+(i:Int).toNat*1=i by omega,hpg i (by omega),tA,if_pos (by omega)]
   have hg2:PB[0+((255-(i:Int))%255).toNat*1]? =some (by8 (tB i)):=by
    rw[show 0+((255-(i:Int))%255).toNat*1=(255-i)%255 by omega,hpg _ (by omega),tB,if_pos (by omega)]
   refine yo 10 ?_
   simp only[cT,cZ,cD,cO]
   refine zE ?_
   refine xc ?_
   refine vP (O.load rfl rfl mM (by assumption)) ?_
   refine zE ?_
   refine xQ ?_
   refine vP x3 ?_
   refine xc ?_
   refine vP (O.load rfl rfl mM (by assumption)) ?_
   refine vq ?_
   refine vq ?_
   refine vf ?_
   simp only[a0g,cN,cA,cP]
   refine zH ?_
   refine vh
  ·have hA:a0v (.int .u8 0)=by8 (tA i):=by rw[tA,if_neg (by omega)];rfl
   have hB:a0v (.int .u8 0)=by8 (tB i):=by rw[tB,if_neg (by omega)];rfl
   refine yU ?_
   refine AQ.g ?_
   refine G.re 6 (by8 (tA i)) (congrArg some hA) ?_
   refine AQ.u ?_
   refine AQ.g ?_
   refine G.re 7 (by8 (tB i)) (congrArg some hB) ?_
   refine AQ.u ?_
   refine yK
  dsimp only[cA,cN]
  refine zn (zC (zq ?_))
  refine zb ?_
  refine vO (O.xor_ rfl rfl rfl (t0a _)) ?_
  refine zc (zH (zn (zC (zC (zq ?_)))))
  refine zc (zH (zn (xb ?_)))
  refine zh [(0,_),(1,_),(4,_),(6,_),(7,_),(21,_)] (fun nn E H=> ∃(k:Nat),(k≤4)∧nn=4-k∧E= [(8,by8 (tC i k)),(9,.val (.int .i64 ((k+1:Nat):Int)))]∧H= [.blk B3 183 512 (arB 512 (tT i)),.blk B2 181 256 PB,.blk B1 183 512 (arB 512 (tT 0))]) _ (⟨0,by omega,rfl,rfl,rfl⟩) ?_
  rintro nn E H ⟨k,hk,rfl,rfl,rfl⟩
  dsimp only[cA,cN]
  refine zC (zC (zq ?_))
  refine zb ?_
  refine vL (zH (zn ?_))
  refine ym (fun h4=> ?_) (fun h4=> ?_)<;>(try simp only[vU]at h4)
  ·refine yU (zn (zC (xb (zq ?_))))
   refine zb ?_
   refine zb ?_
   refine zb ?_
   refine vO (xD rfl Tryz.func196 rfl rfl rfl (r0u _ (k+1) (by omega))) ?_
   refine vE ?_
   refine zc (zH (xA (zn (zq ?_))))
   refine zb ?_
   refine zx ?_
   refine zc (zH ?_)
   refine zr _ _ _ (by omega) (⟨k+1,by omega,rfl,rfl,rfl⟩)
  obtain rfl:k=4:=by omega
  refine wm ?_
  refine xY ?_
  refine wa ?_
  refine xq (zn (zq ?_))
  refine zb ?_
  refine zb ?_
  refine zb ?_
  refine zb ?_
  refine zt ?_
  refine xO ?_
  refine yF 0 rfl rfl rfl rfl rfl rfl (by rfl) (by rfl) (by exact Nat.ble_eq_true_of_le (by rw[a0b];omega)) (by exact a0K (k:=(tA i).toNat) (by omega) _ (by omega)) ?_
  refine zt ?_
  refine xO ?_
  refine yF 0 rfl rfl rfl rfl rfl rfl (by rfl) (by rfl) (by exact Nat.ble_eq_true_of_le (by rw[a0b];omega)) (by exact a0K (k:=256+(tC i 4).toNat) (by omega) _ (by omega)) (zH (xA (zn (zq ?_))))
  refine zx ?_
  refine zb (zH ?_)
  have e4:arB 512 (fun q=>if q=256+(tC i 4).toNat then tA i else if q=(tA i).toNat then tC i 4 else tT i q)=arB 512 (tT (i+1)):=a0d fun q hq=>r0g (by omega) q hq
  rw[e4]
  refine zr _ _ _ (by omega) (⟨i+1,by omega,rfl,rfl,rfl⟩)
 obtain rfl:i=256:=by omega
 have e5:arB 512 (tT 256)=arB 512 TB:=a0d fun q _=>t0j q
 rw[e5]
 refine wm ?_
 refine xY ?_
 refine wa ?_
 refine xq (zn (zC (zq ?_)))
 refine xu ?_
 refine yh 2 (zH (zn (y3 ?_)))
 refine AQ.retCell (ys:=arB 512 TB) rfl rfl mM (List.take_of_length_le (Nat.le_of_eq (a0b _ _))) (a0b _ _) nS ⟨rfl,rfl⟩
theorem t0y: ∀i,i<255→l0b (pw i) 3=pw (i+1):=by decide +kernel
theorem w0k: ∀i,i<255→((((tB i^^^r0s (tB i) 1)^^^r0s (tB i) 2)^^^r0s (tB i) 3)^^^r0s (tB i) 4)^^^99=sb (tA i):=by decide +kernel
def rT (i q:Nat):UInt8:=if q=0 then 99 else if lg (UInt8.ofNat q)<i then sb (UInt8.ofNat q)else 0
def RB (q:Nat):UInt8:=sb (UInt8.ofNat q)
theorem u0S {i:Nat}(hi:i<255):(tA i).toNat≠0:=fun h=>by
 have h1:tA i=tA 255:=by rw[show tA 255=0 from rfl];exact UInt8.toNat_inj.1 h
 have h2:=(l0T i (by omega)).1
 rw[h1,(l0T 255 (by omega)).1]at h2
 omega
theorem r0M {i:Nat}(hi:i<255)(q:Nat)(hq:q<256):(if q=(tA i).toNat then sb (tA i)else rT i q)=rT (i+1) q:=by
 have hne:=u0S hi
 have h1:=(l0T i (by omega)).1
 unfold rT
 by_cases e:q=(tA i).toNat
 ·have:UInt8.ofNat q=tA i:=(c0x hq).2 e
  rw[if_pos e,if_neg (by omega),this,h1,if_pos (by omega)]
 rw[if_neg e]
 by_cases h0:q=0
 ·rw[if_pos h0,if_pos h0]
 have:lg (UInt8.ofNat q)≠i:=fun hh=>e ((c0x hq).1 ((k0n (by omega)).1 hh))
 rw[if_neg h0,if_neg h0]
 by_cases hl:lg (UInt8.ofNat q)<i
 ·rw[if_pos hl,if_pos (by omega)]
 rw[if_neg hl,if_neg (by omega)]
theorem t0x (q:Nat)(hq:q<256):rT 255 q=RB q:=by
 unfold rT RB
 by_cases h0:q=0
 ·rw[if_pos h0,h0];rfl
 rw[if_neg h0,if_pos]
 have h1:=s0h (UInt8.ofNat q)
 have h2:lg (UInt8.ofNat q)≠255:=fun hh=>by
  have:=(c0x hq).1 ((k0n (by omega)).1 hh)
  exact h0 (this.trans rfl)
 omega
theorem r0L (q:Nat):(if q=0 then 99 else 0)=rT 0 q:=by unfold rT;simp
theorem j0O:Sp Tryz.prog 199 [] [] (Is (.agg (arB 256 RB))):=by
 refine yH Tryz.func199 _ Tryz.ntmps199 (fun w0 R0=> ?_)
 refine zC (zq ?_)
 refine wA ?_
 intro B1
 refine zH (zn (zC (zq ?_)))
 refine wA ?_
 intro B2
 refine zH (zn (zC (zq ?_)))
 refine zc (zH (zn (zC (zC (zq ?_)))))
 refine zb (zH (zn (xb ?_)))
 have e0:arB 255 (fun _=>0)=arB 255 (fun q=>if q<0 then pw q else 0):=a0d fun q _=>(if_neg (by omega)).symm
 rw[e0]
 refine zh [(0,_),(1,_)] (fun nn E H=> ∃(i:Nat),(i≤255)∧nn=255-i∧E= [(2,by8 (pw i)),(7,.val (.int .i64 (i:Int)))]∧H= [.blk B2 234 255 (arB 255 (fun q=>if q<i then pw q else 0)),.blk B1 181 256 (arB 256 fun _=>0)]) _ (⟨0,by omega,rfl,rfl,rfl⟩) ?_
 rintro nn E H ⟨i,hi,rfl,rfl,rfl⟩
 dsimp only[cA,cN]
 refine zC (zq ?_)
 refine zR (zH (zn (zC ?_)))
 refine ym (fun h=> ?_) (fun h=> ?_)<;>(try simp only[vU]at h)
 ·refine yU (zn (zC (xb (zC (zq ?_)))))
  refine zb ?_
  refine zc (zH (zn (zC (zq ?_))))
  refine zb ?_
  refine zb ?_
  refine xO ?_
  refine yF 0 rfl rfl rfl rfl rfl rfl (by rfl) (by rfl) (by exact Nat.ble_eq_true_of_le (by rw[a0b];omega)) (by exact a0K (k:=i) (by omega) _ (by omega)) (zH (zn (zq ?_)))
  refine zb ?_
  refine vO (xD rfl Tryz.func209 rfl rfl rfl (n0g _ 3)) ?_
  refine zc (zH (xA (zn (zq ?_))))
  refine zx ?_
  refine zb (zH ?_)
  have e1:arB 255 (fun q=>if q=i then pw i else if q<i then pw q else 0)=arB 255 (fun q=>if q<i+1 then pw q else 0):=a0d fun q _=>by
   rcases Nat.lt_trichotomy q i with h1|rfl|h1
   ·rw[if_neg (by omega),if_pos h1,if_pos (by omega)]
   ·rw[if_pos rfl,if_pos (by omega)]
   rw[if_neg (by omega),if_neg (by omega),if_neg (by omega)]
  rw[t0y i (by omega),e1]
  refine zr _ _ _ (by omega) (⟨i+1,by omega,rfl,rfl,rfl⟩)
 obtain rfl:i=255:=by omega
 obtain⟨PB,hPB⟩: ∃PB,PB=arB 255 (fun q=>if q<255 then pw q else 0):=⟨_,rfl⟩
 have hpg: ∀k,k<255→PB[k]? =some (by8 (pw k)):=fun k hk=>by rw[hPB,a0p (k:=k) (by omega) rfl,if_pos hk]
 rw[←hPB]
 refine wm ?_
 refine xY ?_
 refine wa ?_
 refine xq (zn (zC (zq ?_)))
 refine wA ?_
 intro B3
 refine zH (zn (zC (zq ?_)))
 refine xO ?_
 refine yF 0 rfl rfl rfl rfl rfl rfl (by rfl) (by rfl) (by exact Nat.ble_eq_true_of_le (by rw[a0b];omega)) (by exact a0K (k:=0) (by omega) 99 (by omega)) (zH (zn (zC (zC (zq ?_)))))
 refine zb (zH (zn (xb ?_)))
 have e2:arB 256 (fun q=>if q=0 then 99 else 0)=arB 256 (rT 0):=a0d fun q _=>r0L q
 rw[e2]
 refine zh [(0,_),(1,_),(4,_)] (fun nn E H=> ∃(i:Nat),(i≤255)∧nn=255-i∧E= [(17,.val (.int .i64 (i:Int)))]∧H= [.blk B3 181 256 (arB 256 (rT i)),.blk B2 234 255 PB,.blk B1 181 256 (arB 256 fun _=>0)]) _ (⟨0,by omega,rfl,rfl,rfl⟩) ?_
 rintro nn E H ⟨i,hi2,rfl,rfl,rfl⟩
 dsimp only[cA,cN]
 refine zC (zq ?_)
 refine zR (zH (zn (zC ?_)))
 refine ym (fun h2=> ?_) (fun h2=> ?_)<;>(try simp only[vU]at h2)
 ·have hAl:=(tA i).toNat_lt
  have hg1:PB[0+(i:Int).toNat*1]? =some (by8 (tA i)):=by
   rw[show 0+(i:Int).toNat*1=i by omega,hpg i (by omega),tA,if_pos (by omega)]
  have hg2:PB[0+((255-(i:Int))%255).toNat*1]? =some (by8 (tB i)):=by
   rw[show 0+((255-(i:Int))%255).toNat*1=(255-i)%255 by omega,hpg _ (by omega),tB,if_pos (by omega)]
  refine yU (zn (zC (xb (zC (zq ?_)))))
  refine zb ?_
  refine zc (zH (zn (zC (zq ?_))))
  refine zb ?_
  refine yG ?_
  refine ww ?_
  refine xO ?_
  refine vO (O.load rfl rfl mM (by assumption)) ?_
  refine zc (zH (zn ?_))
  refine yo 18 ?_
  simp only[cT,cZ,cD,cO]
  refine zE ?_
  refine xc ?_
  refine vP (O.load rfl rfl mM (by assumption)) ?_
  refine zE ?_
  refine zE ?_
  refine vP (xD rfl Tryz.func210 rfl rfl rfl (j0T _ 1 (by omega))) ?_
  refine wy ?_
  refine zE ?_
  refine vP (xD rfl Tryz.func210 rfl rfl rfl (j0T _ 2 (by omega))) ?_
  refine wy ?_
  refine zE ?_
  refine vP (xD rfl Tryz.func210 rfl rfl rfl (j0T _ 3 (by omega))) ?_
  refine wy ?_
  refine zE ?_
  refine vP (xD rfl Tryz.func210 rfl rfl rfl (j0T _ 4 (by omega))) ?_
  refine wy ?_
  refine vP (O.xor_ rfl rfl rfl (t0a _)) ?_
  refine xc ?_
  refine vf ?_
  simp only[a0g,cN,cA,cP]
  refine yF 0 rfl rfl rfl rfl rfl rfl (by rfl) (by rfl) (by exact Nat.ble_eq_true_of_le (by rw[a0b];omega)) (by exact a0K (k:=(tA i).toNat) (by omega) _ (by omega)) (zH (xA (zn (zq ?_))))
  refine zx ?_
  refine zb (zH ?_)
  rw[w0k i (by omega)]
  have e4:arB 256 (fun q=>if q=(tA i).toNat then sb (tA i)else rT i q)=arB 256 (rT (i+1)):=a0d fun q hq=>r0M (by omega) q hq
  rw[e4]
  refine zr _ _ _ (by omega) (⟨i+1,by omega,rfl,rfl,rfl⟩)
 obtain rfl:i=255:=by omega
 have e5:arB 256 (rT 255)=arB 256 RB:=a0d fun q hq=>t0x q hq
 rw[e5]
 refine wm ?_
 refine xY ?_
 refine wa ?_
 refine xq (zn (zC (zq ?_)))
 refine xu ?_
 refine yh 2 (zH (zn (y3 ?_)))
 refine AQ.retCell (ys:=arB 256 RB) rfl rfl mM (List.take_of_length_le (Nat.le_of_eq (a0b _ _))) (a0b _ _) nS ⟨rfl,rfl⟩
def rcF:Nat→UInt8
 |0=>1
 |k+1=>dbl (rcF k)
def wS (key:Nat→UInt8)(q:Nat):UInt8:=
 if h:q<16 then key q else
  (if q%16<4 then sb (wS key (q-q%16-4+(q%16+1)%4))^^^ (if q%16=0 then rcF (q/16-1)else 0)else wS key (q-4))^^^wS key (q-16)
termination_by q
decreasing_by all_goals omega
theorem q0f {key:Nat→UInt8}{q:Nat}(h:q<16):wS key q=key q:=by rw[wS,dif_pos h]
theorem u0M {key:Nat→UInt8}{q:Nat}(h: ¬q<16):wS key q=(if q%16<4 then sb (wS key (q-q%16-4+(q%16+1)%4))^^^ (if q%16=0 then rcF (q/16-1)else 0)else wS key (q-4))^^^wS key (q-16):=by
 rw[wS,dif_neg h]
def zS (key:Nat→UInt8)(i m:Nat):UInt8:=if m<4 then sb (wS key (16*i-4+(m+1)%4))^^^ (if m=0 then rcF (i-1)else 0)else wS key (16*i+m-4)
theorem u0N (key:Nat→UInt8){i m:Nat}(hi:1≤i)(hm:m<16):wS key (16*i+m)=zS key i m^^^wS key (16*(i-1)+m):=by
 rw[wS,dif_neg (by omega)]
 have h1:(16*i+m)%16=m:=by omega
 have h2:(16*i+m)/16=i:=by omega
 rw[h1,h2,show 16*i+m-16=16*(i-1)+m by omega,show 16*i+m-m-4=16*i-4 by omega,zS]
def cut (key:Nat→UInt8)(n q:Nat):UInt8:=if q<n then wS key q else 0
theorem n0L {key:Nat→UInt8}{n k j:Nat}(h:k<n)(h2:n≤176)(hj:j=k):(arB 176 (cut key n))[j]? =some (by8 (wS key k)):=by
 rw[a0p (k:=k) (by omega) hj,cut,if_pos h]
def tz (key:Nat→UInt8)(i k j:Nat):UInt8:=zS key i (k+(j+4-k%4)%4)
theorem u0P (key:Nat→UInt8)(i k:Nat):tz key i k (k%4)=zS key i k:=by
 unfold tz;congr 1;omega
theorem t0g {key:Nat→UInt8}{i k j:Nat}(hj:j=k%4):(arB 4 (tz key i k))[j]? =some (by8 (zS key i k)):=by
 rw[a0p (k:=k%4) (by omega) hj,u0P]
theorem r0b {key:Nat→UInt8}{i k:Nat}(q:Nat)(hq:q<4):(if q=k%4 then wS key (16*i+k)else tz key i k q)=tz key i (k+1) q:=by
 unfold tz
 by_cases h:q=k%4
 ·rw[if_pos h,zS,if_neg (by omega)]
  congr 1;omega
 rw[if_neg h];congr 1;omega
theorem q0U (a:UInt8):a^^^0=a:=UInt8.xor_zero
theorem s0y (key:Nat→UInt8):a0e (arB 176 fun _=>0) 0 ((arB 16 key).take 16)=arB 176 (cut key 16):=by
 rw[List.take_of_length_le (Nat.le_of_eq (a0b _ _)),d0i (by omega)]
 refine a0d fun q hq=> ?_
 unfold cut
 by_cases h:q<16
 ·rw[if_pos (by omega),if_pos h,q0f h];rfl
 rw[if_neg (by omega),if_neg h]
theorem o0y (key:Nat→UInt8)(xs:List AV)(hx:j0D xs 0 sb):Sp Tryz.prog 178 [.rp xs 0,.ro false 16 (arB 16 key)] [] (Is (.agg (arB 176 (wS key)))):=by
 refine yH Tryz.func178 _ Tryz.ntmps178 (fun w0 R0=> ?_)
 refine zC (zq ?_)
 refine wA ?_
 intro B1
 refine zH (zn (zC (zq ?_)))
 refine xO ?_
 refine vO (O.sliceArrK (p:=0) rfl rfl rfl rfl (by rfl) (by rfl) ⟨by omega,by omega⟩ (by omega)) ?_
 refine zb ?_
 refine AO.copyIn (i:=0) rfl rfl rfl rfl (by exact a0b _ _) (by exact d0x _ _) rfl (by rw[a0b];omega) (by exact s0y key) rfl rfl (fun q h=>by cases h;exact lB rfl) ?_
 rintro _ rfl
 dsimp only[List.set]
 refine zH (zn (zC (zq ?_)))
 refine zc (zH (zn (zC (zC (zq ?_)))))
 refine zc (zH (zn (xb ?_)))
 refine zh [(0,_),(4,_)] (fun nn E H=> ∃(i:Nat),(1≤i∧i≤11)∧nn=11-i∧E= [(5,by8 (rcF (i-1))),(6,.val (.int .i64 (i:Int)))]∧H= [.blk B1 186 176 (arB 176 (cut key (16*i)))]) _ (⟨1,by omega,rfl,rfl,rfl⟩) ?_
 rintro nn E H ⟨i,hi,rfl,rfl,rfl⟩
 dsimp only[cA,cN]
 refine zC (zC (zq ?_))
 refine zb ?_
 refine zR (zH (zn ?_))
 refine ym (fun h=> ?_) (fun h=> ?_)<;>(try simp only[vU]at h)
 ·have hi':i<11:=by omega
  have hlast: ∀j:Nat,j<4→(arB 176 (cut key (16*i)))[0+((i:Int)-1).toNat*16+12*1+j*1]? =some (by8 (wS key (16*i-4+j))):=fun j hj=>n0L (by omega) (by omega) (by omega)
  have hl0:=hlast 0 (by omega)
  have hl1:=hlast 1 (by omega)
  have hl2:=hlast 2 (by omega)
  have hl3:=hlast 3 (by omega)
  refine yU (zn (zC (xb (zC (zq ?_)))))
  refine zb ?_
  refine yG ?_
  refine xO ?_
  refine vO (O.sliceArrK (p:=12) rfl rfl rfl rfl (by rfl) (by rfl) ⟨by omega,by omega⟩ (by omega)) ?_
  refine zc (zH (zn (zC ?_)))
  refine yo 36 ?_
  simp only[cT,cZ,cD,cO]
  refine zE ?_
  refine zE ?_
  refine vg ?_
  refine vP (O.load rfl rfl (by repeat(exact List.Mem.head _)) (by exact hl1)) ?_
  refine vP (O.nilCheckR rfl rfl) ?_
  refine vP (O.fieldAddrR rfl rfl) ?_
  refine vP (O.idxLR rfl rfl rfl (by exact l0R _)) ?_
  refine vP (O.loadR rfl rfl (by exact e0s hx _)) ?_
  refine zE ?_
  refine wy ?_
  refine zE ?_
  refine zE ?_
  refine vg ?_
  refine vP (O.load rfl rfl (by repeat(exact List.Mem.head _)) (by exact hl2)) ?_
  refine vP (O.nilCheckR rfl rfl) ?_
  refine vP (O.fieldAddrR rfl rfl) ?_
  refine vP (O.idxLR rfl rfl rfl (by exact l0R _)) ?_
  refine vP (O.loadR rfl rfl (by exact e0s hx _)) ?_
  refine zE ?_
  refine zE ?_
  refine vg ?_
  refine vP (O.load rfl rfl (by repeat(exact List.Mem.head _)) (by exact hl3)) ?_
  refine vP (O.nilCheckR rfl rfl) ?_
  refine vP (O.fieldAddrR rfl rfl) ?_
  refine vP (O.idxLR rfl rfl rfl (by exact l0R _)) ?_
  refine vP (O.loadR rfl rfl (by exact e0s hx _)) ?_
  refine zE ?_
  refine zE ?_
  refine vg ?_
  refine vP (O.load rfl rfl (by repeat(exact List.Mem.head _)) (by exact hl0)) ?_
  refine vP (O.nilCheckR rfl rfl) ?_
  refine vP (O.fieldAddrR rfl rfl) ?_
  refine vP (O.idxLR rfl rfl rfl (by exact l0R _)) ?_
  refine vP (O.loadR rfl rfl (by exact e0s hx _)) ?_
  refine xN ?_
  refine yS ?_
  refine vf ?_
  simp only[a0g,cN,cA,cP]
  rintro _ _ ⟨B2,rfl,rfl⟩
  simp only[cA,cN]
  refine xC 0 (zH (zn (zC (zq ?_))))
  refine zb ?_
  refine vO (xD rfl Tryz.func195 rfl rfl rfl (k0w _)) ?_
  refine zc (zH (zn (zC (zq ?_))))
  refine zb (zH (zn (xb ?_)))
  have hz: [AV.val (.int .u8 ((sb (wS key (16*i-4+1))^^^rcF (i-1)).toNat:Int)),by8 (sb (wS key (16*i-4+2))),by8 (sb (wS key (16*i-4+3))),by8 (sb (wS key (16*i-4)))]=arB 4 (tz key i 0):=by
   show _= [by8 (zS key i 0),by8 (zS key i 1),by8 (zS key i 2),by8 (zS key i 3)]
   have z0:zS key i 0=sb (wS key (16*i-4+1))^^^rcF (i-1):=rfl
   have z1:zS key i 1=sb (wS key (16*i-4+2)):=q0U _
   have z2:zS key i 2=sb (wS key (16*i-4+3)):=q0U _
   have z3:zS key i 3=sb (wS key (16*i-4)):=q0U _
   rw[z0,z1,z2,z3]
  rw[hz]
  have hrc:dbl (rcF (i-1))=rcF (i+1-1):=by
   rw[show i+1-1=(i-1)+1 by omega,rcF]
  rw[hrc]
  refine zh [(0,_),(4,_),(5,_),(6,_),(8,_)] (fun nn E H=> ∃(k:Nat),(k≤16)∧nn=16-k∧E= [(59,.val (.int .i64 (k:Int)))]∧H= [.blk B2 215 4 (arB 4 (tz key i k)),.blk B1 186 176 (arB 176 (cut key (16*i+k)))]) _ (⟨0,by omega,rfl,rfl,rfl⟩) ?_
  rintro nn E H ⟨k,hk,rfl,rfl,rfl⟩
  dsimp only[cA,cN]
  refine zC (zq ?_)
  refine zR (zH (zn (zC ?_)))
  refine ym (fun h2=> ?_) (fun h2=> ?_)<;>(try simp only[vU]at h2)
  ·have hk':k<16:=by omega
   refine yU (zn (zC (xb (zC (zq ?_)))))
   refine zb ?_
   refine zc (zH (zn (zC ?_)))
   refine yo 12 ?_
   simp only[cT,cZ,cD,cO]
   refine zE ?_
   refine vP x3 ?_
   refine xc ?_
   refine vP (O.load rfl rfl (by repeat(exact List.Mem.head _)) (by exact t0g (k:=k) (by omega))) ?_
   refine zE ?_
   refine xQ ?_
   refine zE ?_
   refine xc ?_
   refine xc ?_
   refine vP (O.load rfl rfl mM (by exact n0L (k:=16*(i-1)+k) (by omega) (by omega) (by omega))) ?_
   refine wy ?_
   refine xc ?_
   refine vf ?_
   simp only[a0g,cN,cA,cP]
   refine yF 0 rfl rfl rfl rfl rfl rfl (by rfl) (by rfl) (by exact Nat.ble_eq_true_of_le (by rw[a0b];omega)) (by exact a0K (k:=k%4) (by omega) _ (by omega)) (zH (zn ?_))
   refine yo 8 ?_
   simp only[cT,cZ,cD,cO]
   refine zE ?_
   refine zE ?_
   refine zE ?_
   refine vP x3 ?_
   refine xc ?_
   refine vP (O.load rfl rfl (by repeat(exact List.Mem.head _)) (by exact a0p (k:=k%4) (by omega) (by omega))) ?_
   refine xc ?_
   refine xc ?_
   refine vf ?_
   simp only[a0g,cN,cA,cP]
   refine yF 1 rfl rfl rfl rfl rfl rfl (by rfl) (by rfl) (by exact Nat.ble_eq_true_of_le (by rw[a0b];omega)) (by exact a0K (k:=16*i+k) (by omega) _ (by omega)) (zH (xA (zn (zq ?_))))
   refine zx ?_
   refine zb (zH ?_)
   have hw:=u0N key hi.1 hk'
   have e1:arB 4 (fun q=>if q=k%4 then zS key i k^^^wS key (16*(i-1)+k)else tz key i k q)=arB 4 (tz key i (k+1)):=a0d fun q hq=>by
    rw[←hw];exact r0b q hq
   have e2:arB 176 (fun q=>if q=16*i+k then(if True then zS key i k^^^wS key (16*(i-1)+k)else tz key i k (k%4))else cut key (16*i+k) q)=arB 176 (cut key (16*i+(k+1))):=a0d fun q hq=>by
    rw[if_pos trivial,←hw]
    unfold cut
    rcases Nat.lt_trichotomy q (16*i+k)with h1|h1|h1
    ·rw[if_neg (by omega),if_pos h1,if_pos (by omega)]
    ·rw[if_pos h1,if_pos (by omega),h1]
    rw[if_neg (by omega),if_neg (by omega),if_neg (by omega)]
   rw[e1,e2]
   refine zr _ _ _ (by omega) (⟨k+1,by omega,rfl,rfl,rfl⟩)
  obtain rfl:k=16:=by omega
  refine wm ?_
  refine xY ?_
  refine wa ?_
  refine xq (xA (zn (zq ?_)))
  refine zb ?_
  refine zx ?_
  refine zc (zH ?_)
  refine zJ _ _ _ (by omega) (⟨i+1,by omega,rfl,rfl,rfl⟩)
 obtain rfl:i=11:=by omega
 have e:arB 176 (cut key (16*11))=arB 176 (wS key):=a0d fun q hq=>if_pos hq
 rw[e]
 refine wm ?_
 refine xY ?_
 refine wa ?_
 refine xq (zn (zC (zq ?_)))
 refine xu ?_
 refine yh 0 (zH (zn (y3 ?_)))
 refine AQ.retCell (ys:=arB 176 (wS key)) rfl rfl (by repeat(exact List.Mem.head _)) (List.take_of_length_le (Nat.le_of_eq (a0b _ _))) (a0b _ _) nS ⟨rfl,rfl⟩
def tq (key:Nat→UInt8)(i j:Nat):UInt8:=if i%4=0 then sb (wS key (4*i-4+(j+1)%4))^^^ (if j=0 then rcF (i/4-1)else 0)else wS key (4*i-4+j)
theorem t0d (key:Nat→UInt8){i j:Nat}(hi:4≤i)(hj:j<4):wS key (4*i-16+j)^^^tq key i j=wS key (4*i+j):=by
 rw[UInt8.xor_comm,u0M (q:=4*i+j) (by omega),tq]
 by_cases h:i%4=0
 ·have h1:(4*i+j)%16=j:=by omega
  rw[if_pos h,h1,if_pos hj,show 4*i+j-j-4=4*i-4 by omega,show(4*i+j)/16=i/4 by omega,show 4*i+j-16=4*i-16+j by omega]
 rw[if_neg h,if_neg (by omega),show 4*i+j-4=4*i-4+j by omega,show 4*i+j-16=4*i-16+j by omega]
theorem s0C:j0D (arB 256 RB) 0 sb:=fun v=>by
 have:=v.toNat_lt
 rw[a0p (k:=v.toNat) (by omega) (by omega),RB,UInt8.ofNat_toNat]
theorem v0h (a:UInt8):l0b a 2=dbl a:=c0E (p:=fun a=>l0b a 2=dbl a) (by decide +kernel) a
theorem c0e {n:Nat}{f:Nat→UInt8}{v:UInt8}(h:v=f n):arB n f++[by8 v]=arB (n+1) f:=by
 subst h;rw[c0D,c0D,List.range_succ,List.map_append];rfl
theorem h0J (key:Nat→UInt8):Sp Tryz.prog 200 [.ro false 16 (arB 16 key),.agg (arB 256 RB)] [] (Is (.ro false 176 (arB 176 (wS key)))):=by
 refine yH Tryz.func200 _ Tryz.ntmps200 (fun w0 R0=> ?_)
 refine zC (zq ?_)
 refine z9 ?_
 intro B1
 refine zc (zH (zn (zC (zq ?_))))
 refine zb ?_
 refine vS (O.appendNil rfl (by rfl) (by rfl) rfl rfl (by exact SrcA.ro TyD.ax (by rfl) (lB rfl)) (by rfl) (by(unfold maxLen;omega)) (by omega)) ?_
 intro V2 hV2
 refine zc (zH (zn (zC (zq ?_))))
 refine zc (zH (zn (zC (zC (zq ?_)))))
 refine zc (zH (zn (xb ?_)))
 have e0:arB 16 key=arB (4*4) (wS key):=a0d fun q hq=>(q0f hq).symm
 rw[e0]
 refine zh [(3,_)] (fun nn E H=> ∃(i:Nat) (V:Value),(4≤i∧i≤44)∧(V.oneCell'=true)∧nn=44-i∧E= [(5,.val V),(6,by8 (rcF ((i-1)/4))),(7,.val (.int .i64 (i:Int)))]∧H= [.row V 5 1 (4*i) (arB (4*i) (wS key)),.blk B1 181 (arB 256 RB).length (arB 256 RB)]) _ (⟨4,V2,by omega,hV2,rfl,rfl,rfl⟩) ?_
 rintro nn E H ⟨i,V,hi,hV,rfl,rfl,rfl⟩
 dsimp only[cA,cN]
 refine zC (zC (zq ?_))
 refine zb ?_
 refine zR (zH (zn ?_))
 refine ym (fun h=> ?_) (fun h=> ?_)<;>(try simp only[vU]at h)
 ·have hi':i<44:=by omega
  have hld: ∀d:Nat,1≤d→d≤4→(arB (4*i) (wS key))[0+(4*(i:Int)-(d:Int)).toNat*1]? =some (by8 (wS key (4*i-d))):=fun d h1 h2=>a0p (by omega) (by omega)
  have hl4:=hld 4 (by omega) (by omega)
  have hl3:=hld 3 (by omega) (by omega)
  have hl2:=hld 2 (by omega) (by omega)
  have hl1:=hld 1 (by omega) (by omega)
  refine AW.g ?_
  refine G.openRow 0 rfl (by omega) (fun b' cap hc1 hc2 hxs hVe=> ?_)
  refine AW.u ?_
  subst hVe
  dsimp only[List.set]
  refine yU (zn (zC (xb (zC ?_))))
  refine yo 26 ?_
  simp only[cT,cZ,cD,cO]
  refine zE ?_
  refine zE ?_
  refine xi ?_
  refine xQ ?_
  refine vg ?_
  refine vP (O.load rfl rfl (by repeat(exact List.Mem.head _)) (by exact hl4)) ?_
  refine zE ?_
  refine zE ?_
  refine xi ?_
  refine xQ ?_
  refine vg ?_
  refine vP (O.load rfl rfl (by repeat(exact List.Mem.head _)) (by exact hl3)) ?_
  refine zE ?_
  refine zE ?_
  refine xi ?_
  refine xQ ?_
  refine vg ?_
  refine vP (O.load rfl rfl (by repeat(exact List.Mem.head _)) (by exact hl2)) ?_
  refine zE ?_
  refine zE ?_
  refine xi ?_
  refine xQ ?_
  refine vg ?_
  refine vP (O.load rfl rfl (by repeat(exact List.Mem.head _)) (by exact hl1)) ?_
  refine xN ?_
  refine yS ?_
  refine vf ?_
  simp only[a0g,cN,cA,cP]
  rintro _ _ ⟨B3,rfl,rfl⟩
  simp only[cA,cN]
  refine xC 0 (zH (zn (zC (zC (zq ?_)))))
  refine zb ?_
  refine ww ?_
  refine yi (zH (zn ?_))
  refine wh True [(3,_),(5,_),(7,_),(8,_)] [(6,by8 (rcF (i/4)))] [.blk B3 215 4 (arB 4 (tq key i)),.blk b' 5 (cap*1) (arB (4*i) (wS key)),.blk B1 181 (arB 256 RB).length (arB 256 RB)] (fun h43=> ?_) (fun h43=> ?_) (fun hj=> ?_)<;>try(try simp only[vU]at h43)
  ·have h4:i%4=0:=by omega
   refine zC ?_
   refine yo 19 ?_
   simp only[cT,cZ,cD,cO]
   refine xc ?_
   refine yM ?_
   refine vP (O.idxL rfl rfl rfl (by exact l0R _)) ?_
   refine vP wT ?_
   refine zE ?_
   refine wy ?_
   refine xc ?_
   refine yM ?_
   refine vP (O.idxL rfl rfl rfl (by exact l0R _)) ?_
   refine vP wT ?_
   refine xc ?_
   refine yM ?_
   refine vP (O.idxL rfl rfl rfl (by exact l0R _)) ?_
   refine vP wT ?_
   refine xc ?_
   refine yM ?_
   refine vP (O.idxL rfl rfl rfl (by exact l0R _)) ?_
   refine vP wT ?_
   refine xN ?_
   refine vf ?_
   simp only[a0g,cN,cA,cP]
   refine xC 0 (zH (zn (zq ?_)))
   refine zb ?_
   refine vO (xD rfl Tryz.func209 rfl rfl rfl (n0g _ 2)) ?_
   refine zc (zH ?_)
   have ht: [AV.val (.int .u8 ((sb (wS key (4*i-3))^^^rcF ((i-1)/4)).toNat:Int)),by8 (sb (wS key (4*i-2))),by8 (sb (wS key (4*i-1))),by8 (sb (wS key (4*i-4)))]=arB 4 (tq key i):=by
    show _= [by8 (tq key i 0),by8 (tq key i 1),by8 (tq key i 2),by8 (tq key i 3)]
    have t0:tq key i 0=sb (wS key (4*i-3))^^^rcF ((i-1)/4):=by
     rw[tq,if_pos h4,if_pos rfl,show 4*i-4+(0+1)%4=4*i-3 by omega,show i/4-1=(i-1)/4 by omega]
    have t1:tq key i 1=sb (wS key (4*i-2)):=by
     rw[tq,if_pos h4,if_neg (by omega),q0U,show 4*i-4+(1+1)%4=4*i-2 by omega]
    have t2:tq key i 2=sb (wS key (4*i-1)):=by
     rw[tq,if_pos h4,if_neg (by omega),q0U,show 4*i-4+(2+1)%4=4*i-1 by omega]
    have t3:tq key i 3=sb (wS key (4*i-4)):=by
     rw[tq,if_pos h4,if_neg (by omega),q0U,show 4*i-4+(3+1)%4=4*i-4 by omega]
    rw[t0,t1,t2,t3]
   rw[ht]
   have hr:l0b (rcF ((i-1)/4)) 2=rcF (i/4):=by
    rw[v0h,show i/4=(i-1)/4+1 by omega,rcF]
   rw[hr]
   refine vh
  ·have h4: ¬i%4=0:=by omega
   refine yU ?_
   have ht: [by8 (wS key (4*i-4)),by8 (wS key (4*i-3)),by8 (wS key (4*i-2)),by8 (wS key (4*i-1))]=arB 4 (tq key i):=by
    show _= [by8 (tq key i 0),by8 (tq key i 1),by8 (tq key i 2),by8 (tq key i 3)]
    unfold tq
    rw[if_neg h4,if_neg h4,if_neg h4,if_neg h4,show 4*i-4+0=4*i-4 by omega,show 4*i-4+1=4*i-3 by omega,show 4*i-4+2=4*i-2 by omega,show 4*i-4+3=4*i-1 by omega]
   rw[ht]
   have hr:rcF ((i-1)/4)=rcF (i/4):=by rw[show(i-1)/4=i/4 by omega]
   rw[hr]
   refine yK
  dsimp only[cA,cN]
  refine zn (zC (zq ?_))
  refine zb (zH (zn (xb ?_)))
  refine AW.g ?_
  refine G.closeRow (b:=b') 1 rfl hxs rfl hc1 hc2 ?_
  refine AW.u ?_
  dsimp only[List.set]
  refine xZ [(3,_),(6,_),(7,_),(8,_)] (fun nn E H=> ∃(j:Nat) (W:Value),(j≤4)∧(W.oneCell'=true)∧nn=4-j∧E= [(5,.val W),(65,.val (.int .i64 (j:Int)))]∧H= [.row W 5 1 (4*i+j) (arB (4*i+j) (wS key)),.blk B3 215 4 (arB 4 (tq key i)),.blk B1 181 (arB 256 RB).length (arB 256 RB)]) _ (⟨0,_,by omega,hV,rfl,rfl,rfl⟩) ?_
  rintro nn E H ⟨j,W,hj,hW,rfl,rfl,rfl⟩
  dsimp only[cA,cN]
  refine zC (zq ?_)
  refine zR (zH (zn (zC ?_)))
  refine ym (fun h2=> ?_) (fun h2=> ?_)<;>(try simp only[vU]at h2)
  ·have hj':j<4:=by omega
   refine AW.g ?_
   refine G.openRow 0 rfl (by omega) (fun b2 cap2 hd1 hd2 hxs2 hVe2=> ?_)
   refine AW.u ?_
   subst hVe2
   dsimp only[List.set]
   refine yU (zn (zC (xb (zC (zq ?_)))))
   refine zb ?_
   refine zc (zH (zn ?_))
   refine yo 14 ?_
   simp only[cT,cZ,cD,cO]
   refine zE ?_
   refine zE ?_
   refine zE ?_
   refine xi ?_
   refine xQ ?_
   refine zE ?_
   refine xa ?_
   refine vg ?_
   refine vP (O.load rfl rfl (by repeat(exact List.Mem.head _)) (by exact a0p (k:=4*i-16+j) (by omega) (by omega))) ?_
   refine zE ?_
   refine xc ?_
   refine vP (O.load rfl rfl mM (by exact a0p (k:=j) (by omega) (by omega))) ?_
   refine wy ?_
   refine vP y6 ?_
   refine vf ?_
   simp only[a0g,cN,cA,cP]
   refine AO.g ?_
   refine G.closeRow (b:=b2) 0 rfl hxs2 rfl hd1 hd2 ?_
   refine AO.u ?_
   dsimp only[List.set]
   refine yk 0 ?_
   intro V4 hV4
   refine zc (zH (xA (zn (zq ?_))))
   refine zx ?_
   refine zb (zH ?_)
   rw[show arB (4*i+j) (wS key)++[AV.val (.int .u8 ((wS key (4*i-16+j)^^^tq key i j).toNat:Int))]=arB (4*i+j+1) (wS key)from c0e (t0d key hi.1 hj')]
   refine zr _ _ _ (by omega) (⟨j+1,V4,by omega,hV4,rfl,rfl,rfl⟩)
  obtain rfl:j=4:=by omega
  refine wm ?_
  refine xY ?_
  refine wa ?_
  refine xq (xA (zn (zq ?_)))
  refine zb ?_
  refine zx ?_
  refine zc (zH ?_)
  refine xv _ _ _ (by omega) (⟨i+1,W,by omega,hW,rfl,rfl,rfl⟩)
 obtain rfl:i=44:=by omega
 refine wm ?_
 refine xY ?_
 refine wa ?_
 refine xq (zn (zC (zq ?_)))
 refine zb ?_
 refine zc (zH (zn (y3 ?_)))
 refine AQ.g ?_
 refine yj 0 [4] ?_
 refine AQ.u ?_
 try dsimp only[List.map,List.eraseIdx,cA,cN]
 refine yw
def g0f (q:Nat):UInt8:= [2,3,1,1].getD q 0
def v0l (q:Nat):UInt8:= [14,11,13,9].getD q 0
def d0u (w f:Nat→UInt8):Nat→Nat→UInt8
 |0=>fun q=>f q^^^w (0*16+q)
 |i+1=>fun q=>(if i+1<10 then g0b (shF sb 1 (d0u w f i)) g0f else shF sb 1 (d0u w f i)) q^^^w ((i+1)*16+q)
def enc (w f:Nat→UInt8):Nat→UInt8:=d0u w f 10
def w0f (ys:List AV)(o:Nat)(w:Nat→UInt8):Prop:= ∀i,i<11→(ys.drop (o+i*16)).take 16=arB 16 fun q=>w (i*16+q)
theorem l0u (b:Nat)(f w:Nat→UInt8)(xs ys:List AV)(o oy:Nat)(hx:j0D xs o sb)(hw:w0f ys oy w):Sp Tryz.prog 197 [.rp xs o,.rp ys oy,pt b] [stB b f] (IsM (.val (.tuple #[])) (stB b (enc w f))):=by
 refine yH Tryz.func197 _ Tryz.ntmps197 (fun w0 R0=> ?_)
 refine zC (zq ?_)
 refine zb ?_
 refine zb ?_
 refine vO (O.nilCheckR rfl rfl) ?_
 refine vO (O.idxLR rfl rfl rfl ⟨(by omega),(by omega)⟩) ?_
 refine vO (O.loadRK rfl rfl (by exact hw 0 (by omega)) (by exact a0b _ _)) ?_
 refine xJ 0 rfl rfl Tryz.func206 rfl rfl rfl rfl rfl rfl (i0P _ _ _) (zH (zn (zC (zq ?_))))
 refine zc (zH (zn (xb ?_)))
 refine zh [(0,_),(1,_),(2,_)] (fun nn E H=> ∃(j:Nat),(j≤10)∧nn=10-j∧E= [(6,.val (.int .i64 ((j+1:Nat):Int)))]∧H= [stB b (d0u w f j)]) _ (⟨0,by omega,rfl,rfl,rfl⟩) ?_
 rintro nn E H ⟨j,hj,rfl,rfl,rfl⟩
 dsimp only[cA,cN]
 refine zC (zC (zq ?_))
 refine zb ?_
 refine zR (zH (zn ?_))
 refine ym (fun h=> ?_) (fun h=> ?_)<;>(try simp only[vU]at h)
 ·refine yU (zn (zC (xb (zC (zq ?_)))))
  refine zb ?_
  refine zb ?_
  refine vO (O.nilCheckR rfl rfl) ?_
  refine vO (O.fieldAddrR rfl rfl) ?_
  refine xJ 0 rfl rfl Tryz.func207 rfl rfl rfl rfl rfl rfl (m0h _ _ _ _ _ hx) (zH (zn (zC (zC (zq ?_)))))
  refine zb ?_
  refine zR (zH (zn ?_))
  refine ym (fun h23=> ?_) (fun h23=> ?_)<;>(try simp only[vU]at h23)
  ·have e:(fun q=>g0b (shF sb 1 (d0u w f j)) g0f q^^^w ((j+1)*16+q))=d0u w f (j+1):=by rw[d0u,if_pos (by omega)]
   refine zq ?_
   refine zb ?_
   refine zM ?_
   refine xJ 0 rfl rfl Tryz.func208 rfl rfl rfl rfl rfl rfl (t0I _ _ g0f) (zH (zn (zq ?_)))
   refine zb ?_
   refine zb ?_
   refine zb ?_
   refine vO (O.nilCheckR rfl rfl) ?_
   refine vO (O.idxLR rfl rfl rfl ⟨(by omega),(by omega)⟩) ?_
   refine vO (O.loadRK rfl rfl (by exact hw (j+1) (by omega)) (by exact a0b _ _)) ?_
   refine xJ 0 rfl rfl Tryz.func206 rfl rfl rfl rfl rfl rfl (i0P _ _ _) (zH (xA (zn (zq ?_))))
   refine zb ?_
   refine zx ?_
   refine zc (zH ?_)
   rw[e]
   refine zr _ _ _ (by omega) (⟨j+1,by omega,rfl,rfl,rfl⟩)
  have e:(fun q=>shF sb 1 (d0u w f j) q^^^w ((j+1)*16+q))=d0u w f (j+1):=by rw[d0u,if_neg (by omega)]
  refine yU (zn (zq ?_))
  refine zb ?_
  refine zb ?_
  refine zb ?_
  refine vO (O.nilCheckR rfl rfl) ?_
  refine vO (O.idxLR rfl rfl rfl ⟨(by omega),(by omega)⟩) ?_
  refine vO (O.loadRK rfl rfl (by exact hw (j+1) (by omega)) (by exact a0b _ _)) ?_
  refine xJ 0 rfl rfl Tryz.func206 rfl rfl rfl rfl rfl rfl (i0P _ _ _) (zH (xA (zn (zq ?_))))
  refine zb ?_
  refine zx ?_
  refine zc (zH ?_)
  rw[e]
  refine zr _ _ _ (by omega) (⟨j+1,by omega,rfl,rfl,rfl⟩)
 obtain rfl:j=10:=by omega
 refine wm ?_
 refine xY ?_
 refine wa ?_
 refine xq ?_
 refine AQ.retN (AQ.ret0 rfl ⟨_,by repeat(first|exact List.Sublist.slnil|refine List.Sublist.cons_cons _ ?_),List.Perm.refl _⟩ (⟨rfl,rfl⟩))
def g0k (w:Nat→UInt8):List AV:=arB 512 TB++arB 176 w
theorem q0G (w:Nat→UInt8):j0D (g0k w) 0 sb:=fun v=>by
 have h:=u0l v
 have:=v.toNat_lt
 unfold g0k
 rw[List.getElem?_append_left (by rw[a0b];omega)];exact h
theorem u0i (w:Nat→UInt8):w0f (g0k w) 512 w:=fun i hi=>by
 unfold g0k
 rw[List.drop_append,List.drop_eq_nil_of_le (by rw[a0b];omega),cN,a0b,Nat.add_sub_cancel_left]
 exact g0P (by omega)
theorem p0S:g0k (fun _=>0)=arB 688 (fun q=>if 0≤q∧q<0+512 then TB (q-0)else 0):=by
 unfold g0k
 rw[j0y]
 refine a0d fun q hq=> ?_
 by_cases h:q<512
 ·rw[if_pos h,if_pos (by omega)];rfl
 rw[if_neg h,if_neg (by omega)]
theorem s0A (w:Nat→UInt8){j:Nat}(hj:j=512):a0e (g0k fun _=>0) j (arB 176 w)=g0k w:=by
 subst hj
 unfold g0k
 rw[c0l _ _ _ (by rw[cH,a0b,a0b,a0b];omega),a0b,List.take_left' (a0b _ _),List.drop_eq_nil_of_le (by rw[cH,a0b,a0b];omega),cP]
theorem n0O (w:Nat→UInt8):(g0k w).length=688:=by unfold g0k;rw[cH,a0b,a0b]
instance (priority:=2000) cip83:TyB Tryz.prog 188 [(0,512),(512,176)] (.agg ⟨List.replicate 688 (.int .u8 0)⟩):=⟨Tryz.t188,Tryz.type188,by kernel_rfl,.inl ⟨_,Tryz.underlying188,rfl⟩⟩
theorem t0Z:d0m ([(0,512),(512,176)][·]?) ((Value.agg ⟨List.replicate 688 (.int .u8 0)⟩).cells.toList.map AV.val) [(0,.agg (arB 512 TB))]=some (g0k fun _=>0):=by
 have hz:((Value.agg ⟨List.replicate 688 (.int .u8 0)⟩).cells.toList.map AV.val)=arB 688 (fun _=>0):=f0d 688
 rw[hz]
 unfold d0m
 have h1:(AV.agg (arB 512 TB)).cells.length=512:=a0b _ _
 have h2:(arB 688 fun _=>0).length=688:=a0b _ _
 simp only[List.getElem?_cons_zero,h1,h2]
 rw[show(Nat.beq 512 512&&Nat.ble (0+512) 688)=true from by decide]
 simp only[cond_true,d0m]
 refine congrArg some ?_
 show a0e (arB 688 fun _=>0) 0 (arB 512 TB)=_
 rw[d0i (by omega),←p0S]
def kf (l:List UInt8):Nat→UInt8:=fun q=>l.getD q 0
theorem n0w {l:List UInt8}{n:Nat}(h:l.length=n):fnB n (kf l)=l:=by
 subst h
 apply List.ext_getElem?
 intro q
 by_cases hq:q<l.length
 ·simp[fnB,kf,hq]
 simp[fnB,hq]
theorem j0V {l:List UInt8}{n:Nat}(h:l.length=n):roB l= .ro false n (arB n (kf l)):=by
 rw[←b0D,n0w h]
theorem o0d (key:Nat→UInt8):Sp Tryz.prog 157 [.ro false 16 (arB 16 key)] [] (b0f pt 188 688 (g0k (wS key))):=by
 refine yH Tryz.func157 _ Tryz.ntmps157 (fun w0 R0=> ?_)
 refine zC (zq ?_)
 refine zc (zH (zn (zC (zq ?_))))
 refine vO (xD rfl Tryz.func177 rfl rfl rfl r0h) ?_
 refine vO (O.build rfl rfl rfl (by exact t0Z)) ?_
 refine z9 ?_
 intro B1
 refine zc (zH (zn (zC (zq ?_))))
 refine zb ?_
 refine zb ?_
 refine vB ?_
 refine zt ?_
 refine zb ?_
 refine vO (O.callLB rfl Tryz.func178 rfl rfl rfl (by repeat(exact List.Mem.head _)) (o0y _ _ (q0G _)) (m0N _ _) (by(repeat(first|exact LendB.nil|refine LendB.lend ?_|refine LendB.same ?_));done)) ?_
 refine vB ?_
 refine zt ?_
 refine AO.store (i:=0) rfl rfl rfl rfl rfl rfl (by exact d0x _ _) (by exact a0b _ _) (by exact Nat.ble_eq_true_of_le (Nat.le_of_eq (n0O _).symm)) (by exact s0A _ rfl) (by(dsimp only[List.set,List.append,cA,cN,AV.cells,a0e,List.take,List.drop,Nat.reduceAdd];done)) (zH (zn (zC (zq ?_))))
 refine zb ?_
 refine zc (zH (zn (y3 ?_)))
 rw[n0O]
 refine vm rfl rfl ⟨_,by repeat(first|exact List.Sublist.slnil|refine List.Sublist.cons_cons _ ?_),List.Perm.refl _⟩ (⟨B1,rfl,rfl⟩)
theorem h0s (w f:Nat→UInt8):Sp Tryz.prog 179 [.rp (g0k w) 0,.agg (arB 16 f)] [] (Is (.agg (arB 16 (enc w f)))):=by
 refine yH Tryz.func179 _ Tryz.ntmps179 (fun w0 R0=> ?_)
 refine zC (zq ?_)
 refine z9 ?_
 intro B1
 refine zd ?_
 intro B2
 refine zH (zn (zC (zq ?_)))
 refine vv ?_
 refine zd ?_
 intro B3
 refine xk 0 (zH (zn (zC ?_)))
 refine yo 6 ?_
 simp only[cT,cZ,cD,cO]
 refine zE ?_
 refine vP (O.nilCheckR rfl rfl) ?_
 refine vP (O.fieldAddrR rfl rfl) ?_
 refine zE ?_
 refine vP (O.nilCheckR rfl rfl) ?_
 refine vP (O.fieldAddrR rfl rfl) ?_
 refine vf ?_
 simp only[a0g,cN,cA,cP]
 refine xJ 0 rfl rfl Tryz.func197 rfl rfl rfl rfl rfl rfl (l0u _ f w (g0k w) (g0k w) 0 512 (q0G w) (u0i w)) (zH (zn (zC (zq ?_))))
 refine xu ?_
 refine xk 1 (zH (zn (y3 ?_)))
 refine AQ.retCell rfl rfl mM (by rfl) rfl nS (⟨rfl,rfl⟩)
def u0a (key blk:List UInt8):List UInt8:=if key.length=16∧blk.length=16 then fnB 16 (enc (wS (kf key)) (kf blk))else []
def u0C (key blk:List UInt8):Int:=if key.length=16∧blk.length=16 then 0 else 1
def s0M (w f:Nat→UInt8):Nat→Nat→UInt8
 |0=>f
 |k+1=>shF iv 3 (if 10-k<10 then g0b (fun q=>s0M w f k q^^^w ((10-k)*16+q)) v0l else fun q=>s0M w f k q^^^w ((10-k)*16+q))
def dec (w f:Nat→UInt8)(q:Nat):UInt8:=s0M w f 10 q^^^w (0*16+q)
abbrev a0y (b:Nat)(f:Nat→UInt8):HE:= .blk b 171 16 (arB 16 f)
theorem b0m {b:Nat}{f g:Nat→UInt8}(h: ∀q,q<16→f q=g q):a0y b f=a0y b g:=congrArg (fun x=>HE.blk b 171 16 x) (a0d h)
theorem e0d (f k:Nat→UInt8):Sp Tryz.prog 201 [.agg (arB 16 f),.ro false 16 (arB 16 k)] [] (Is (.agg (arB 16 fun q=>f q^^^k q))):=by
 refine yH Tryz.func201 _ Tryz.ntmps201 (fun w0 R0=> ?_)
 refine zC (zq ?_)
 refine z9 ?_
 intro B1
 refine zd ?_
 intro B2
 refine zH (zn (zC (zC (zq ?_))))
 refine zb (zH (zn (xb ?_)))
 have e0:a0y B1 f=a0y B1 (fun q=>if q<0 then f q^^^k q else f q):=b0m fun q _=>(if_neg (by omega)).symm
 refine zh [(1,_),(2,_),(4,_)] (fun nn E H=> ∃(i:Nat),(i≤16)∧nn=16-i∧E= [(6,.val (.int .i64 (i:Int)))]∧H= [a0y B2 (fun _=>0),a0y B1 (fun q=>if q<i then f q^^^k q else f q)]) _ (⟨0,by omega,rfl,rfl,congrArg (fun x=> [a0y B2 (fun _=>0),x]) e0⟩) ?_
 rintro nn E H ⟨i,hi,rfl,rfl,rfl⟩
 dsimp only[cA,cN]
 refine zC (zq ?_)
 refine zR (zH (zn (zC ?_)))
 refine ym (fun h=> ?_) (fun h=> ?_)<;>(try simp only[vU]at h)
 ·refine yU (zn (zC (xb (zC (zq ?_)))))
  refine zb ?_
  refine zc (zH (zn ?_))
  refine yo 9 ?_
  simp only[cT,cZ,cD,cO]
  refine zE ?_
  refine yO ?_
  refine vP (O.load rfl rfl mM (by exact a0p (k:=i) (by omega) (by omega))) ?_
  refine zE ?_
  refine zE ?_
  refine xd ?_
  refine vP (O.loadR rfl rfl (by exact a0p (k:=i) (by omega) (by omega))) ?_
  refine wy ?_
  refine yO ?_
  refine vf ?_
  simp only[a0g,cN,cA,cP]
  refine yF 1 rfl rfl rfl rfl rfl rfl (by rfl) (by rfl) (by exact Nat.ble_eq_true_of_le (by rw[a0b];omega)) (by exact a0K (k:=i) (by omega) _ (by omega)) (zH (xA (zn (zq ?_))))
  refine zx ?_
  refine zb (zH ?_)
  have e:a0y B1 (fun q=>if q=i then(if i<i then f i^^^k i else f i)^^^k i else if q<i then f q^^^k q else f q)=a0y B1 (fun q=>if q<i+1 then f q^^^k q else f q):=b0m fun q _=>by
   rcases Nat.lt_trichotomy q i with h1|rfl|h1
   ·rw[if_neg (by omega),if_pos h1,if_pos (by omega)]
   ·rw[if_pos rfl,if_neg (by omega),if_pos (by omega)]
   rw[if_neg (by omega),if_neg (by omega),if_neg (by omega)]
  refine zr _ _ _ (by omega) (⟨i+1,by omega,rfl,rfl,congrArg (fun x=> [a0y B2 (fun _=>0),x]) e⟩)
 obtain rfl:i=16:=by omega
 refine wm ?_
 refine xY ?_
 refine wa ?_
 refine xq (zn (zC (zq ?_)))
 refine vO (O.loadK rfl rfl mM (by exact List.take_of_length_le (Nat.le_of_eq (a0b _ _))) (by rfl)) ?_
 refine AO.store (i:=0) rfl rfl rfl rfl rfl rfl (by rfl) (by rfl) (by rfl) (by exact b0C rfl) (by(dsimp only[List.set,cA,cN,List.take,List.drop];done)) (zH (zn (y3 ?_)))
 refine AQ.retCell (ys:=arB 16 (fun q=>if q<16 then f q^^^k q else f q)) rfl rfl (by repeat(exact List.Mem.head _)) (List.take_of_length_le (Nat.le_of_eq (a0b _ _))) (a0b _ _) nS ⟨congrArg AV.agg (a0d fun q hq=>if_pos hq),rfl⟩
def rK (f m:Nat→UInt8)(c r:Nat):Nat→UInt8
 |0=>0
 |k+1=>rK f m c r k^^^l0b (f (4*c+k)) (m ((k+4-r)%4))
def o0L (f m:Nat→UInt8)(q:Nat):UInt8:=rK f m (q/4) (q%4) 4
theorem s0Y (a b c:UInt8):a^^^ (b^^^c)=b^^^ (a^^^c):=by rw[←UInt8.xor_assoc,UInt8.xor_comm a b,UInt8.xor_assoc]
theorem r0x (f m:Nat→UInt8)(q:Nat):o0L f m q=g0b f m q:=by
 unfold o0L g0b
 have h4:q%4<4:=Nat.mod_lt _ (by decide)
 simp only[rK,q0B]
 generalize q/4=c at*
 generalize q%4=r at*
 rcases(show r=0∨r=1∨r=2∨r=3 by omega)with rfl|rfl|rfl|rfl<;>simp[UInt8.xor_assoc,UInt8.xor_comm,s0Y]
def rU (f m:Nat→UInt8)(c r k q:Nat):UInt8:=if q=4*c+r then rK f m c r k else if q<4*c+r then o0L f m q else 0
theorem r0K (f m:Nat→UInt8){c r:Nat}(hr:r<4)(q:Nat):rU f m c r 4 q=rU f m c (r+1) 0 q:=by
 unfold rU
 rcases Nat.lt_trichotomy q (4*c+r)with h1|h1|h1
 ·rw[if_neg (by omega),if_pos h1,if_neg (by omega),if_pos (by omega)]
 ·rw[if_pos h1,if_neg (by omega),if_pos (by omega),o0L,h1,show(4*c+r)/4=c by omega,show(4*c+r)%4=r by omega]
 rw[if_neg (by omega),if_neg (by omega)]
 by_cases h2:q=4*c+(r+1)
 ·rw[if_pos h2];rfl
 rw[if_neg h2,if_neg (by omega)]
theorem t0w (f m:Nat→UInt8){c:Nat}(q:Nat):rU f m c 4 0 q=rU f m (c+1) 0 0 q:=by
 unfold rU
 rw[show 4*(c+1)+0=4*c+4 by omega]
 by_cases h:q=4*c+4
 ·rw[if_pos h,if_pos h];rfl
 rw[if_neg h,if_neg h]
theorem r0J (f m:Nat→UInt8)(q:Nat):rU f m 0 0 0 q=0:=by
 unfold rU
 by_cases h:q=4*0+0
 ·rw[if_pos h];rfl
 rw[if_neg h,if_neg (by omega)]
theorem m0t (f m:Nat→UInt8):Sp Tryz.prog 202 [.agg (arB 16 f),.agg (arB 4 m)] [] (Is (.agg (arB 16 (g0b f m)))):=by
 refine yH Tryz.func202 _ Tryz.ntmps202 (fun w0 R0=> ?_)
 refine zC (zq ?_)
 refine z9 ?_
 intro B1
 refine z9 ?_
 intro B2
 refine zd ?_
 intro B3
 refine zH (zn (zC (zq ?_)))
 refine zd ?_
 intro B4
 refine zH (zn (zC (zC (zq ?_))))
 refine zb (zH (zn (xb ?_)))
 have e0:a0y B4 (fun _=>0)=a0y B4 (rU f m 0 0 0):=b0m fun q _=>(r0J f m q).symm
 refine zh [(2,_),(3,_),(4,_),(5,_)] (fun nn E H=> ∃(c:Nat),(c≤4)∧nn=4-c∧E= [(9,.val (.int .i64 (c:Int)))]∧H= [a0y B4 (rU f m c 0 0),a0y B3 (fun _=>0),.blk B2 215 4 (arB 4 m),a0y B1 f]) _ (⟨0,by omega,rfl,rfl,congrArg (fun x=> [x,a0y B3 (fun _=>0),.blk B2 215 4 (arB 4 m),a0y B1 f]) e0⟩) ?_
 rintro nn E H ⟨c,hc,rfl,rfl,rfl⟩
 dsimp only[cA,cN]
 refine zC (zq ?_)
 refine zR (zH (zn (zC ?_)))
 refine ym (fun h=> ?_) (fun h=> ?_)<;>(try simp only[vU]at h)
 ·refine yU (zn (zC (xb (zC (zq ?_)))))
  refine zb ?_
  refine zc (zH (zn (zC (zq ?_))))
  refine zb (zH (zn (xb ?_)))
  refine zh [(2,_),(3,_),(4,_),(5,_),(6,_),(9,_)] (fun nn E H=> ∃(r:Nat),(r≤4)∧nn=4-r∧E= [(12,.val (.int .i64 (r:Int)))]∧H= [a0y B4 (rU f m c r 0),a0y B3 (fun _=>0),.blk B2 215 4 (arB 4 m),a0y B1 f]) _ (⟨0,by omega,rfl,rfl,rfl⟩) ?_
  rintro nn E H ⟨r,hr,rfl,rfl,rfl⟩
  dsimp only[cA,cN]
  refine zC (zq ?_)
  refine zR (zH (zn (zC ?_)))
  refine ym (fun h2=> ?_) (fun h2=> ?_)<;>(try simp only[vU]at h2)
  ·have hr':r<4:=by omega
   have hc':c<4:=by omega
   refine yU (zn (zC (xb (zC (zq ?_)))))
   refine zb ?_
   refine zc (zH (zn (zC (zq ?_))))
   refine zb (zH (zn (xb ?_)))
   refine zh [(2,_),(3,_),(4,_),(5,_),(6,_),(7,_),(9,_),(12,_)] (fun nn E H=> ∃(k:Nat),(k≤4)∧nn=4-k∧E= [(15,.val (.int .i64 (k:Int)))]∧H= [a0y B4 (rU f m c r k),a0y B3 (fun _=>0),.blk B2 215 4 (arB 4 m),a0y B1 f]) _ (⟨0,by omega,rfl,rfl,rfl⟩) ?_
   rintro nn E H ⟨k,hk,rfl,rfl,rfl⟩
   dsimp only[cA,cN]
   refine zC (zq ?_)
   refine zR (zH (zn (zC ?_)))
   refine ym (fun h3=> ?_) (fun h3=> ?_)<;>(try simp only[vU]at h3)
   ·refine yU (zn (zC (xb (zC (zq ?_)))))
    refine zb ?_
    refine zc (zH (zn ?_))
    refine yo 22 ?_
    simp only[cT,cZ,cD,cO]
    refine zE ?_
    refine xi ?_
    refine zE ?_
    refine xa ?_
    refine yO ?_
    refine vP (O.load rfl rfl (by repeat(exact List.Mem.head _)) (by exact a0p (k:=4*c+r) (by omega) (by omega))) ?_
    refine zE ?_
    refine xi ?_
    refine zE ?_
    refine xa ?_
    refine yO ?_
    refine vP (O.load rfl rfl mM (by exact a0p (k:=4*c+k) (by omega) (by omega))) ?_
    refine zE ?_
    refine zE ?_
    refine xQ ?_
    refine xa ?_
    refine vP x3 ?_
    refine yO ?_
    refine vP (O.load rfl rfl mM (by exact a0p (k:=(k+4-r)%4) (by omega) (by omega))) ?_
    refine vP (xD rfl Tryz.func209 rfl rfl rfl (n0g _ _)) ?_
    refine wy ?_
    refine yO ?_
    refine vf ?_
    simp only[a0g,cN,cA,cP]
    refine yF 0 rfl rfl rfl rfl rfl rfl (by rfl) (by rfl) (by exact Nat.ble_eq_true_of_le (by rw[a0b];omega)) (by exact a0K (k:=4*c+r) (by omega) _ (by omega)) (zH (xA (zn (zq ?_))))
    refine zx ?_
    refine zb (zH ?_)
    have e:a0y B4 (fun q=>if q=4*c+r then rU f m c r k (4*c+r)^^^l0b (f (4*c+k)) (m ((k+4-r)%4))else rU f m c r k q)=a0y B4 (rU f m c r (k+1)):=b0m fun q _=>by
     unfold rU
     by_cases h1:q=4*c+r
     ·rw[if_pos h1,if_pos rfl,if_pos h1];rfl
     rw[if_neg h1,if_neg h1,if_neg h1]
    refine zr _ _ _ (by omega) (⟨k+1,by omega,rfl,rfl,congrArg (fun x=> [x,a0y B3 (fun _=>0),.blk B2 215 4 (arB 4 m),a0y B1 f]) e⟩)
   obtain rfl:k=4:=by omega
   refine wm ?_
   refine xY ?_
   refine wa ?_
   refine xq (xA (zn (zq ?_)))
   refine zx ?_
   refine zb (zH ?_)
   have e:a0y B4 (rU f m c r 4)=a0y B4 (rU f m c (r+1) 0):=b0m fun q _=>r0K f m hr' q
   refine zr _ _ _ (by omega) (⟨r+1,by omega,rfl,rfl,congrArg (fun x=> [x,a0y B3 (fun _=>0),.blk B2 215 4 (arB 4 m),a0y B1 f]) e⟩)
  obtain rfl:r=4:=by omega
  refine wm ?_
  refine xY ?_
  refine wa ?_
  refine xq (xA (zn (zq ?_)))
  refine zx ?_
  refine zb (zH ?_)
  have e:a0y B4 (rU f m c 4 0)=a0y B4 (rU f m (c+1) 0 0):=b0m fun q _=>t0w f m q
  refine zr _ _ _ (by omega) (⟨c+1,by omega,rfl,rfl,congrArg (fun x=> [x,a0y B3 (fun _=>0),.blk B2 215 4 (arB 4 m),a0y B1 f]) e⟩)
 obtain rfl:c=4:=by omega
 refine wm ?_
 refine xY ?_
 refine wa ?_
 refine xq (zn (zC (zq ?_)))
 refine vO (O.loadK rfl rfl (by repeat(exact List.Mem.head _)) (by exact List.take_of_length_le (Nat.le_of_eq (a0b _ _))) (by rfl)) ?_
 refine AO.store (i:=1) rfl rfl rfl rfl rfl rfl (by rfl) (by rfl) (by rfl) (by exact b0C rfl) (by(dsimp only[List.set,cA,cN,List.take,List.drop];done)) (zH (zn (y3 ?_)))
 refine AQ.retCell (ys:=arB 16 (rU f m 4 0 0)) rfl rfl mM (List.take_of_length_le (Nat.le_of_eq (a0b _ _))) (a0b _ _) nS ⟨congrArg AV.agg (a0d fun q hq=>by rw[←r0x];unfold rU;rw[if_neg (by omega),if_pos (by omega)]),rfl⟩
theorem o0W (key blk:List UInt8):Sp Tryz.prog 186 [roB key,roB blk] [] (Is (.tup [roB (u0a key blk),.val (.int .i64 (u0C key blk))])):=by
 refine yH Tryz.func186 _ Tryz.ntmps186 (fun w0 R0=> ?_)
 refine zC (zq ?_)
 refine zc ?_
 refine zc (zH (zn (zC (zC (zq ?_)))))
 refine zb ?_
 refine zZ ?_
 refine y8 ?_
 refine zb ?_
 refine yl ?_
 refine yg 17 ?_
 refine xF 18 ?_
 refine zG (zH (zn ?_))
 refine ym (fun h=> ?_) (fun h=> ?_)<;>(try simp only[vU]at h)
 ·have e1:u0a key blk= []:=if_neg (by omega)
  have e2:u0C key blk=1:=if_neg (by omega)
  rw[e1,e2]
  refine zC (zq ?_)
  refine zc ?_
  refine zc (zH (zn (y3 (xh ?_))))
  refine x9 yP yu (⟨rfl,rfl⟩)
 have hk:key.length=16:=by omega
 have hb:blk.length=16:=by omega
 rw[u0a,u0C,if_pos ⟨hk,hb⟩,if_pos ⟨hk,hb⟩]
 refine AW.g ?_
 refine G.re 0 (.ro false 16 (arB 16 (kf key))) (congrArg some (j0V hk)) ?_
 refine AW.u ?_
 refine AW.g ?_
 refine G.re 1 (.ro false 16 (arB 16 (kf blk))) (congrArg some (j0V hb)) ?_
 refine AW.u ?_
 obtain⟨w,hwd⟩: ∃w,w=wS (kf key):=⟨_,rfl⟩
 have hs0:(arB 176 (wS (kf key))).take (16*1)=arB 16 (fun q=>w (0*16+q)):=by
  have:=g0P (n:=176) (f:=w) (j:=0) (k:=16) (by omega)
  rw[hwd]at this⊢
  simpa using this
 have hseg: ∀r,r<11→((arB 176 w).drop (16*r*1)).take (16*1)=arB 16 fun q=>w (r*16+q):=fun r hr=>by
  rw[show 16*r*1=r*16 by omega];exact g0P (by omega)
 refine yU (zn (zC (zq ?_)))
 refine vO (xD rfl Tryz.func199 rfl rfl rfl j0O) ?_
 refine wA ?_
 intro B1
 refine yh 0 (zH (zn (zC (zq ?_))))
 refine zb ?_
 refine xu ?_
 refine vO (xD rfl Tryz.func200 rfl rfl rfl (h0J _)) ?_
 refine zc (zH (zn (zC ?_)))
 refine yo 7 ?_
 simp only[cT,cZ,cD,cO]
 refine zE ?_
 refine vP (O.toArr rfl rfl (by omega) (by omega)) ?_
 refine vP (O.loadRK rfl rfl (by exact List.take_of_length_le (Nat.le_of_eq (a0b _ _))) (by exact a0b _ _)) ?_
 refine zE ?_
 refine vP (O.sliceTo (k:=16) rfl rfl rfl (by rfl) (by omega) (by exact hs0)) ?_
 refine vP (xD rfl Tryz.func201 rfl rfl rfl (e0d _ _)) ?_
 refine yS ?_
 refine vf ?_
 simp only[a0g,cN,cA,cP]
 rintro _ _ ⟨B2,rfl,rfl⟩
 simp only[cA,cN]
 refine xk 0 (zH (zn (zC (zC (zq ?_)))))
 refine zc (zH (zn (xb ?_)))
 rw[←hwd]
 refine zh [(6,_),(7,_),(8,_)] (fun nn E H=> ∃(j:Nat),(j≤10)∧nn=10-j∧E= [(9,.val (.int .i64 ((j+1:Nat):Int)))]∧H= [a0y B2 (d0u w (kf blk) j),.blk B1 181 256 (arB 256 RB)]) _ (⟨0,by omega,rfl,rfl,rfl⟩) ?_
 rintro nn E H ⟨j,hj,rfl,rfl,rfl⟩
 dsimp only[cA,cN]
 refine zC (zC (zq ?_))
 refine zb ?_
 refine vL (zH (zn ?_))
 refine ym (fun hj1=> ?_) (fun hj1=> ?_)<;>(try simp only[vU]at hj1)
 ·obtain⟨g,hg⟩: ∃g,g=d0u w (kf blk) j:=⟨_,rfl⟩
  have hst: ∀q,d0u w (kf blk) (j+1) q=(if j+1<10 then g0b (shF sb 1 g) g0f else shF sb 1 g) q^^^w ((j+1)*16+q):=fun q=>by rw[d0u,hg]
  rw[←hg]
  refine yU (zn (zC (xb (zC (zq ?_)))))
  refine zd ?_
  intro B3
  refine zH (zn (zC (zC (zq ?_))))
  refine zb (zH (zn (xb ?_)))
  have e0:a0y B3 (fun _=>0)=a0y B3 (fun q=>if q<4*0+0 then shF sb 1 g q else 0):=b0m fun q _=>(if_neg (by omega)).symm
  refine zh [(6,_),(7,_),(8,_),(9,_),(10,_)] (fun nn E H=> ∃(c:Nat),(c≤4)∧nn=4-c∧E= [(35,.val (.int .i64 (c:Int)))]∧H= [a0y B3 (fun q=>if q<4*c+0 then shF sb 1 g q else 0),a0y B2 g,.blk B1 181 256 (arB 256 RB)]) _ (⟨0,by omega,rfl,rfl,congrArg (fun x=> [x,a0y B2 g,.blk B1 181 256 (arB 256 RB)]) e0⟩) ?_
  rintro nn E H ⟨c,hc,rfl,rfl,rfl⟩
  dsimp only[cA,cN]
  refine zC (zq ?_)
  refine zR (zH (zn (zC ?_)))
  refine ym (fun hc4=> ?_) (fun hc4=> ?_)<;>(try simp only[vU]at hc4)
  ·refine yU (zn (zC (xb (zC (zq ?_)))))
   refine zb ?_
   refine zc (zH (zn (zC (zq ?_))))
   refine zb (zH (zn (xb ?_)))
   refine zh [(6,_),(7,_),(8,_),(9,_),(10,_),(11,_),(35,_)] (fun nn E H=> ∃(r:Nat),(r≤4)∧nn=4-r∧E= [(38,.val (.int .i64 (r:Int)))]∧H= [a0y B3 (fun q=>if q<4*c+r then shF sb 1 g q else 0),a0y B2 g,.blk B1 181 256 (arB 256 RB)]) _ (⟨0,by omega,rfl,rfl,rfl⟩) ?_
   rintro nn E H ⟨r,hr,rfl,rfl,rfl⟩
   dsimp only[cA,cN]
   refine zC (zq ?_)
   refine zR (zH (zn (zC ?_)))
   refine ym (fun hr4=> ?_) (fun hr4=> ?_)<;>(try simp only[vU]at hr4)
   ·have hr':r<4:=by omega
    have hix:(0+(4*(((c:Int)+(r:Int))%4)+(r:Int)).toNat*1)=r+4*((c+r)%4):=by
     have hi:(4*(((c:Int)+(r:Int))%4)+(r:Int))=((r+4*((c+r)%4):Nat):Int):=by push_cast;omega
     rw[hi,Int.toNat_natCast];omega
    have hgb:(arB 16 g)[0+(4*(((c:Int)+(r:Int))%4)+(r:Int)).toNat*1]? =some (by8 (g (r+4*((c+r)%4)))):=by rw[hix];exact a0p (by omega) rfl
    have hsh:shF sb 1 g (4*c+r)=sb (g (r+4*((c+r)%4))):=by
     rw[shF,show(4*c+r)%4=r by omega,show(4*c+r)/4=c by omega,Nat.one_mul]
    refine yU (zn (zC (xb (zC (zq ?_)))))
    refine zb ?_
    refine zc (zH (zn (zq ?_)))
    refine zb ?_
    refine wL ?_
    refine zb ?_
    refine zx ?_
    refine zb ?_
    refine zb ?_
    refine zx ?_
    refine ww ?_
    refine wL ?_
    refine zb ?_
    refine zx ?_
    refine xO ?_
    refine vO (O.load rfl rfl mM (by exact hgb)) ?_
    refine vO (O.idxL rfl rfl rfl (by exact l0R _)) ?_
    refine vO wT ?_
    refine xO ?_
    refine yF 0 rfl rfl rfl rfl rfl rfl (by rfl) (by rfl) (by exact Nat.ble_eq_true_of_le (by rw[a0b];omega)) (by exact a0K (k:=4*c+r) (by omega) _ (by omega)) (zH (xA (zn (zq ?_))))
    refine zx ?_
    refine zb (zH ?_)
    have e:a0y B3 (fun q=>if q=4*c+r then sb (g (r+4*((c+r)%4)))else if q<4*c+r then shF sb 1 g q else 0)=a0y B3 (fun q=>if q<4*c+(r+1)then shF sb 1 g q else 0):=b0m fun q _=>by
     rw[←hsh]
     rcases Nat.lt_trichotomy q (4*c+r)with h1|h1|h1
     ·rw[if_neg (by omega),if_pos h1,if_pos (by omega)]
     ·rw[if_pos h1,if_pos (by omega),h1]
     rw[if_neg (by omega),if_neg (by omega),if_neg (by omega)]
    refine zr _ _ _ (by omega) (⟨r+1,by omega,rfl,rfl,congrArg (fun x=> [x,a0y B2 g,.blk B1 181 256 (arB 256 RB)]) e⟩)
   obtain rfl:r=4:=by omega
   refine wm ?_
   refine xY ?_
   refine wa ?_
   refine xq (xA (zn (zq ?_)))
   refine zx ?_
   refine zb (zH ?_)
   refine zr _ _ _ (by omega) (⟨c+1,by omega,rfl,rfl,rfl⟩)
  obtain rfl:c=4:=by omega
  have e:a0y B3 (fun q=>if q<4*4+0 then shF sb 1 g q else 0)=a0y B3 (shF sb 1 g):=b0m fun q hq=>if_pos hq
  rw[e]
  refine wm ?_
  refine xY ?_
  refine wa ?_
  refine xq (zn (zC (zC (zq ?_))))
  refine zb ?_
  refine zR (zH (zn ?_))
  refine ym (fun h10=> ?_) (fun h10=> ?_)<;>(try simp only[vU]at h10)
  ·refine zq ?_
   refine xu ?_
   refine zM ?_
   refine vO (xD rfl Tryz.func202 rfl rfl rfl (m0t _ g0f)) ?_
   refine yh 0 (zH (zn ?_))
   refine yo 9 ?_
   simp only[cT,cZ,cD,cO]
   refine vD ?_
   refine zE ?_
   refine zE ?_
   refine xi ?_
   refine zE ?_
   refine xi ?_
   refine xa ?_
   refine vP (O.sliceLHm (m:=16) rfl rfl rfl rfl (l:=16*(j+1)) (h:=16*(j+1)+16) (by omega) (by omega) (by omega) (by omega) (by omega) (by exact hseg (j+1) (by omega))) ?_
   refine vP (xD rfl Tryz.func201 rfl rfl rfl (e0d _ _)) ?_
   refine vf ?_
   simp only[a0g,cN,cA,cP]
   refine yh 1 (zH (xA (zn (zq ?_))))
   refine zb ?_
   refine zx ?_
   refine zc (zH ?_)
   have e2:a0y B2 (fun q=>g0b (shF sb 1 g) g0f q^^^w ((j+1)*16+q))=a0y B2 (d0u w (kf blk) (j+1)):=b0m fun q _=>by rw[hst,if_pos (by omega)]
   refine zJ _ _ _ (by omega) (⟨j+1,by omega,rfl,rfl,congrArg (fun x=> [x,.blk B1 181 256 (arB 256 RB)]) e2⟩)
  refine yU (zn ?_)
  refine yo 9 ?_
  simp only[cT,cZ,cD,cO]
  refine vD ?_
  refine zE ?_
  refine zE ?_
  refine xi ?_
  refine zE ?_
  refine xi ?_
  refine xa ?_
  refine vP (O.sliceLHm (m:=16) rfl rfl rfl rfl (l:=16*(j+1)) (h:=16*(j+1)+16) (by omega) (by omega) (by omega) (by omega) (by omega) (by exact hseg (j+1) (by omega))) ?_
  refine vP (xD rfl Tryz.func201 rfl rfl rfl (e0d _ _)) ?_
  refine vf ?_
  simp only[a0g,cN,cA,cP]
  refine yh 1 (zH (xA (zn (zq ?_))))
  refine zb ?_
  refine zx ?_
  refine zc (zH ?_)
  have e2:a0y B2 (fun q=>shF sb 1 g q^^^w ((j+1)*16+q))=a0y B2 (d0u w (kf blk) (j+1)):=b0m fun q _=>by rw[hst,if_neg (by omega)]
  refine zJ _ _ _ (by omega) (⟨j+1,by omega,rfl,rfl,congrArg (fun x=> [x,.blk B1 181 256 (arB 256 RB)]) e2⟩)
 obtain rfl:j=10:=by omega
 have ef:AV.ro false (16-0) (List.take ((16-0)*1) (arB 16 (d0u w (kf blk) 10)))=roB (fnB 16 (enc w (kf blk))):=by
  show AV.ro false 16 (List.take 16 (arB 16 (d0u w (kf blk) 10)))=_
  rw[List.take_of_length_le (Nat.le_of_eq (a0b _ _))]
  exact(b0D 16 _).symm
 refine wm ?_
 refine xY ?_
 refine wa ?_
 refine xq (zn (zC (zq ?_)))
 refine vO (O.sliceArrK (p:=0) rfl rfl rfl rfl (by rfl) (by rfl) ⟨by omega,by omega⟩ (by omega)) ?_
 refine vS (O.appendNil rfl (by rfl) (by rfl) rfl rfl (by exact SrcA.blk TyD.ax (by repeat(exact List.Mem.head _)) (by(dsimp only[List.set,cA,cN,List.take,List.drop];done)) (by rfl)) (by rfl) (by(unfold maxLen;omega)) (by omega)) ?_
 intro V4 hV4
 refine zc ?_
 refine zc (zH (zn (y3 ?_)))
 refine AQ.g ?_
 refine yj 0 [4] ?_
 refine AQ.u ?_
 try dsimp only[List.map,List.eraseIdx,cA,cN]
 refine AQ.g ?_
 refine G.re 4 (roB (fnB 16 (enc w (kf blk)))) (congrArg some ef) ?_
 refine AQ.u ?_
 refine x9 yP yQ (⟨rfl,rfl⟩)
def bk (i q:Nat):UInt8:=if(iv (UInt8.ofNat q)).toNat<i then iv (UInt8.ofNat q)else 0
end Go.Proofs.YtojomcdjcpmnkaaGreat.By
namespace Go.Proofs.YtojomcdjcpmnkaaGreat.A
open Go.RowKit L
section
variable {P:Program}
def s0T:AV→Option Value
 | .val v=>some v
 | .agg xs=>(c0B xs).map fun vs=> .agg vs.toArray
 |_=>none
def o0X:List AV→Option (List Value)
 | []=>some []
 |x::r=>match s0T x,o0X r with|some v,some vs=>some (v::vs)|_,_=>none
theorem o0Y {R:Nat→Prop}{W:World}{x:AV}{v u:Value}(h:s0T x=some v)(hr:RelV R W x u):u=v:=by
 cases x with
 |val w=>cases h;exact hr.val_inv
 | agg xs=>
  simp only[s0T]at h
  cases hq:c0B xs with
  |none=>rw[hq]at h;cases h
  |some vs=>
   rw[hq]at h
   cases h
   obtain⟨us,rfl,h1⟩:=hr.agg_inv
   rw[g0o hq h1]
 |_=>cases h
theorem h0U {R:Nat→Prop}{W:World}: ∀{xs:List AV} {vs us:List Value},o0X xs=some vs→RelL R W xs us→us=vs
 | [],vs,us,h,hr=>by cases h;exact List.eq_nil_of_length_eq_zero (by simpa using hr.1)
 | x::xs,vs,us,h,hr=>by
  obtain⟨u,r,rfl,h1,h2⟩:=hr.uncons
  simp only[o0X]at h
  split at h
  ·rename_i v vs' e1 e2
   cases h
   rw[o0Y e1 h1,h0U e2 h2]
  ·cases h
theorem l0O {R:Nat→Prop}{W:World}: ∀{xs:List AV} {vs:List Value},c0B xs=some vs→RelL R W xs vs
 | [],vs,h=>by cases h;exact RelL.nil
 | x::xs,vs,h=>by
  cases x with
  | val w=>
   simp only[c0B]at h
   cases hq:c0B xs with
   |none=>rw[hq]at h;cases h
   |some us'=>
    rw[hq]at h
    cases h
    exact RelL.cons (.val _) (l0O hq)
  |_=>simp[c0B]at h
theorem r0P {R:Nat→Prop}{W:World}{x:AV}{v:Value}(h:s0T x=some v):RelV R W x v:=by
 cases x with
 |val w=>cases h;exact .val _
 |agg xs=>
  simp only[s0T]at h
  cases hq:c0B xs with
  |none=>rw[hq]at h;cases h
  |some vs=>rw[hq]at h;cases h;exact(l0O hq).toAgg
 |_=>cases h
theorem o0P {W W':World}{R:Nat→Prop}(hR: ∀b,R b→b<W.heap.size)(hE:Ext W W'):RelS ⟨W,a0z [],R,0⟩ R [] W':=
 ⟨hE.mono fun b _ h=>h.elim,fun b hb=>Nat.lt_of_lt_of_le (hR b hb) hE.size,fun _ h=>h,fun _ h=> .inl h,fun _ h=>(by cases h),fun _ h=>(by cases h),.nil⟩
theorem Sp.of_calls {f:FuncId}{args:List AV}{us:List Value}{r:AV}{v:Value}(ha:o0X args=some us)(hr:s0T r=some v)(h: ∀W,Calls P f us.toArray W fun e W'=>e= .returned v∧Ext W W'):Sp P f args [] (Is r):=fun W R us' hR _ _ hrel=>by
 obtain rfl:=h0U ha hrel
 refine(h W).mono ?_
 rintro e W' ⟨rfl,hE⟩
 exact⟨v,r,[],R,rfl,⟨rfl,rfl⟩,o0P hR hE,r0P hr⟩
theorem Sp.frozen {f:FuncId}{args:List AV}{T:TypeId}{sz n:Nat}{ys:List AV}(h:Sp P f args [] (b0e T sz n ys)):Sp P f args [] (Is (.ro false n ys)):=fun W R us h1 h2 h3 h4=>by
 refine(h W R us h1 h2 h3 h4).mono ?_
 rintro e W' ⟨u,r,H',R',rfl,⟨v,rfl,hv1,rfl⟩,hs,hv⟩
 have hok:=hs.ok _ (List.mem_cons_self ..)
 have hown:=hs.own _ (List.mem_cons_self ..)
 have hu:=hv.val_inv
 subst hu
 refine⟨u,.ro false n ys,[],fun b=>R' b∨(HE.row u T sz n ys).foot b,rfl,⟨rfl,rfl⟩,⟨hs.mods,?_,fun b hb=> .inl (hs.rsub b hb),?_,fun _ h=>(by cases h),fun _ h=>(by cases h),.nil⟩,j0S hok⟩
 ·rintro b (hb|hb)
  ·exact hs.rlt b hb
  ·exact HE.ok_lt hok hb
 ·rintro b (hb|hb)
  ·exact hs.rnew b hb
  ·exact .inr (hown b hb).1
end
end Go.Proofs.YtojomcdjcpmnkaaGreat.A
namespace Go.Proofs.YtojomcdjcpmnkaaGreat.By
open Go.RowKit L A
attribute [local irreducible] AW AQ AO
theorem t0f (x:Int):0≤IntKind.u64.wrap x:=by rw[IntKind.wrap_u64];exact Int.emod_nonneg _ (by decide)
def o0u (k:Int)(i:Nat):UInt8:=u8 (((u8 ((IntKind.u64.wrap k).fdiv (2^min (IntKind.u64.wrap (8*IntKind.u64.wrap ((i:Int).tmod 8))).toNat IntKind.u64.bits))).toNat:Int)+((u8 (IntKind.i64.wrap ((i:Int).tdiv 8))).toNat:Int))
def m0b (k:Int)(n:Nat):List UInt8:=fnB n (o0u k)
theorem m0a (k:Int)(n:Nat):(m0b k n).length=n:=a0D _ _
theorem o0t (k:Int)(n:Nat)(hn:n≤1000000):Sp Tryz.prog 107 [.val (.int .i64 k),.val (.int .i64 (n:Int))] [] (b0e 5 1 n (arB n (o0u k))):=by
 refine yH Tryz.func107 _ Tryz.ntmps107 (fun w0 R0=> ?_)
 refine zC (zq ?_)
 refine zc (zH (zn (zC (zq ?_))))
 refine zc (zH (zn (zC (zC (zq ?_)))))
 refine zb ?_
 refine zb (zH (zn (xb ?_)))
 refine AW.g ?_
 refine G.nilRow 5 1 ?_
 refine AW.u ?_
 refine zh [(0,_),(7,_)] (fun nn E H=> ∃(i:Nat) (V:Value),(i≤n)∧(V.oneCell'=true)∧nn=n-i∧E= [(5,.val V),(8,.val (.int .i64 (i:Int)))]∧H= [.row V 5 1 i (arB i (o0u k))]) _ (⟨0,_,by omega,rfl,rfl,rfl,rfl⟩) ?_
 rintro nn E H ⟨i,V,h1,hV,rfl,rfl,rfl⟩
 dsimp only[cA,cN]
 have hsh:=t0f (8*IntKind.u64.wrap ((i:Int).tmod 8))
 refine zC (zq ?_)
 refine zR (zH (zn (zC ?_)))
 refine ym (fun h=> ?_) (fun h=> ?_)<;>(try simp only[vU]at h)
 ·refine yU (zn (zC (xb (zC (zq ?_)))))
  refine zb ?_
  refine zc (zH (zn (zq ?_)))
  refine zb ?_
  refine zb ?_
  refine vO (O.conv rfl rfl (by rfl)) ?_
  refine zb ?_
  refine vO (O.rem rfl rfl rfl (by omega) rfl) ?_
  refine vO (O.conv rfl rfl (by rfl)) ?_
  refine vO (O.mul rfl rfl rfl (by rfl)) ?_
  refine vO (O.shr rfl rfl rfl (by omega) rfl) ?_
  refine y4 ?_
  refine zb ?_
  refine vO (O.quo rfl rfl rfl (by omega) (by rfl)) ?_
  refine y4 ?_
  refine vO (O.add rfl rfl rfl (by exact d0A)) ?_
  refine zU ?_
  intro B1
  refine AO.g ?_
  refine yr 0 24 ?_
  refine wH 24 ?_
  refine AO.u ?_
  dsimp only[List.eraseIdx]
  refine yW 0 ?_
  intro V2 hV2
  refine zc (zH (xA (zn (zq ?_))))
  refine zx ?_
  refine zb (zH ?_)
  refine zr _ _ _ (by omega) (⟨i+1,V2,by omega,hV2,rfl,rfl,congrArg (fun xs=> [HE.row V2 5 1 (i+1) xs]) (c0e (f:=o0u k) (n:=i) rfl)⟩)
 obtain rfl:i=n:=by omega
 refine wm ?_
 refine xY ?_
 refine wa ?_
 refine xq (zn (zC (zq ?_)))
 refine zb ?_
 refine zc (zH (zn (y3 ?_)))
 refine vm rfl rfl ⟨_,by repeat(first|exact List.Sublist.slnil|refine List.Sublist.cons_cons _ ?_),List.Perm.refl _⟩ (⟨V,rfl,hV,rfl⟩)
theorem r0k (k z:Int)(hz:0≤z∧z≤1000000):Sp Tryz.prog 107 [.val (.int .i64 k),.val (.int .i64 z)] [] (Is (roB (m0b k z.toNat))):=by
 have h:=Sp.frozen (o0t k z.toNat (by omega))
 rw[show((z.toNat:Nat):Int)=z by omega]at h
 rw[m0b,b0D]
 exact h
end Go.Proofs.YtojomcdjcpmnkaaGreat.By
namespace Go.Proofs.YtojomcdjcpmnkaaGreat.By
open Go.RowKit L A
def DX (b:UInt8):Prop:= ∀a,dbl (a^^^b)=dbl a^^^dbl b
theorem DX.xor {b c:UInt8}(h:DX b)(k:DX c):DX (b^^^c):=fun a=>by
 rw[←UInt8.xor_assoc,k,h,k,UInt8.xor_assoc]
theorem DX.zero:DX 0:=fun a=>by rw[UInt8.xor_zero,show dbl 0=0 from rfl,UInt8.xor_zero]
theorem h0F {S:UInt8→UInt8}{d:Nat}{f g:Nat→UInt8}(h: ∀q,q<16→f q=g q): ∀q,q<16→shF S d f q=shF S d g q:=fun q hq=>by
 unfold shF
 rw[h _ (by omega)]
theorem g0C {f g m:Nat→UInt8}{i:Nat}(hi:i<16)(h: ∀q,q<16→f q=g q): ∀k,q0B f m i k=q0B g m i k
 |0=>rfl
 |k+1=>by rw[q0B,q0B,g0C hi h k,h _ (by omega)]
theorem l0j {f g m:Nat→UInt8}(h: ∀q,q<16→f q=g q): ∀q,q<16→g0b f m q=g0b g m q:=fun q hq=>g0C hq h 4
theorem i0o (w f:Nat→UInt8)(q:Nat):d0u w f 0 q=f q^^^w (0*16+q):=rfl
theorem i0p (w f:Nat→UInt8)(j q:Nat):d0u w f (j+1) q=(if j+1<10 then g0b (shF sb 1 (d0u w f j)) g0f else shF sb 1 (d0u w f j)) q^^^w ((j+1)*16+q):=rfl
theorem e0q {w f g:Nat→UInt8}(h: ∀q,q<16→f q=g q): ∀j q,q<16→d0u w f j q=d0u w g j q
 |0,q,hq=>by rw[i0o,i0o,h q hq]
 | j+1,q,hq=>by
  rw[i0p,i0p]
  by_cases h9:j+1<10
  ·rw[if_pos h9,if_pos h9]
   show g0b _ _ q^^^_=g0b _ _ q^^^_
   rw[l0j (h0F (e0q h j)) q hq]
  rw[if_neg h9,if_neg h9]
  show shF _ _ _ q^^^_=shF _ _ _ q^^^_
  rw[h0F (e0q h j) q hq]
theorem f0J {w f g:Nat→UInt8}(h: ∀q,q<16→f q=g q): ∀q,q<16→enc w f q=enc w g q:=e0q h 10
theorem i0i {n:Nat}{f:Nat→UInt8}{q:Nat}(hq:q<n):kf (fnB n f) q=f q:=by simp[kf,fnB,hq]
attribute [local irreducible] AW AQ AO
def cvB (key nonce:List UInt8)(tag:Int):Bool:=(key.length:Int)==16&&decide (7≤(nonce.length:Int))&&decide ((nonce.length:Int)≤13)&&decide (4≤tag)&&decide (tag≤16)&&tag.tmod 2==0
theorem n0K {key nonce:List UInt8}{tag:Int}(h:cvB key nonce tag=true):key.length=16∧7≤nonce.length∧nonce.length≤13∧4≤tag∧tag≤16∧tag%2=0:=by
 unfold cvB at h
 simp only[Bool.and_eq_true,beq_iff_eq,cQ]at h
 obtain⟨⟨⟨⟨⟨h1,h2⟩,h3⟩,h4⟩,h5⟩,h6⟩:=h
 rw[Int.tmod_eq_emod_of_nonneg (by omega)]at h6
 omega
theorem p0U (key nonce:List UInt8)(tag:Int):Sp Tryz.prog 156 [roB key,roB nonce,.val (.int .i64 tag)] [] (Is (.val (.bool (cvB key nonce tag)))):=by
 refine yH Tryz.func156 _ Tryz.ntmps156 (fun w0 R0=> ?_)
 refine zC (zq ?_)
 refine zc (zH (zn (zC (zq ?_))))
 refine zb ?_
 refine zZ ?_
 refine yi ?_
 refine zb ?_
 refine yl ?_
 refine yg 11 ?_
 refine AO.opG rfl rfl rfl (fun hp=>wP 12 rfl (by exact hp) wN) ?_
 refine zN ?_
 refine zb ?_
 refine yl ?_
 refine yg 16 ?_
 refine xr 17 ?_
 refine zN ?_
 refine zb ?_
 refine yl ?_
 refine AO.opG rfl rfl rfl (fun hp=>wP 21 rfl (by exact hp) wN) ?_
 refine zN ?_
 refine zb ?_
 refine yl ?_
 refine xr 25 ?_
 refine zN ?_
 refine zb ?_
 refine yl ?_
 refine AO.opG rfl rfl rfl (fun hp=>wP 29 rfl (by exact hp) (O.rem rfl rfl rfl (by omega) rfl)) ?_
 refine xe 30 ?_
 refine zN ?_
 refine zc (zH (zn (y3 ?_)))
 refine yw
theorem h0Q (key nonce:List UInt8)(tag:Int):Sp Tryz.prog 169 [roB key,roB nonce,.val (.int .i64 tag)] [] (Is (.val (.bool (cvB key nonce tag)))):=by
 refine yH Tryz.func169 _ Tryz.ntmps169 (fun w0 R0=> ?_)
 refine zC (zq ?_)
 refine zc (zH (zn (zC (zq ?_))))
 refine zb ?_
 refine zZ ?_
 refine yi ?_
 refine zb ?_
 refine yl ?_
 refine yg 11 ?_
 refine AO.opG rfl rfl rfl (fun hp=>wP 12 rfl (by exact hp) wN) ?_
 refine zN ?_
 refine zb ?_
 refine yl ?_
 refine yg 16 ?_
 refine xr 17 ?_
 refine zN ?_
 refine zb ?_
 refine yl ?_
 refine AO.opG rfl rfl rfl (fun hp=>wP 21 rfl (by exact hp) wN) ?_
 refine zN ?_
 refine zb ?_
 refine yl ?_
 refine xr 25 ?_
 refine zN ?_
 refine zb ?_
 refine yl ?_
 refine AO.opG rfl rfl rfl (fun hp=>wP 29 rfl (by exact hp) (O.rem rfl rfl rfl (by omega) rfl)) ?_
 refine xe 30 ?_
 refine zN ?_
 refine zc (zH (zn (y3 ?_)))
 refine yw
def b0Z (first:UInt8)(nonce:List UInt8)(n:Int)(q:Nat):UInt8:=if q=0 then first else if q≤nonce.length then kf nonce (q-1)else u8 (n/256^ (15-q))
def b0F (first:UInt8)(nonce:List UInt8)(q:Nat):UInt8:=if q=0 then first else if q≤nonce.length then kf nonce (q-1)else 0
theorem e0E (l:List UInt8):a0a l=arB l.length (kf l):=by
 have h:=n0w (l:=l) rfl
 exact(congrArg a0a h).symm
theorem v0u {first:UInt8}{nonce:List UInt8}(h:nonce.length≤15):a0e (arB 16 fun q=>if q=0 then first else 0) 1 ((a0a nonce).take (min nonce.length 15))=arB 16 (b0F first nonce):=by
 rw[Nat.min_eq_left h,List.take_of_length_le (Nat.le_of_eq (c0z _)),e0E,d0i (by omega)]
 refine a0d fun q hq=> ?_
 unfold b0F
 by_cases h0:q=0
 ·rw[if_neg (by omega),if_pos h0,if_pos h0]
 rw[if_neg h0,if_neg h0]
 by_cases h1:q≤nonce.length
 ·rw[if_pos (by omega),if_pos h1]
 rw[if_neg (by omega),if_neg h1]
def bI (first:UInt8)(nonce:List UInt8)(n:Int)(i q:Nat):UInt8:=if i<q then b0Z first nonce n q else b0F first nonce q
theorem p0a (n:Int)(k:Nat):n/256^k/256=n/256^ (k+1):=by
 rw[Int.ediv_ediv_of_nonneg (Int.pow_nonneg (by decide)),Int.pow_succ]
theorem s0D {first:UInt8}{nonce:List UInt8}{n:Int}{i:Nat}(hi:i<15+1)(hl:nonce.length<i)(q:Nat):(if q=i then u8 (n/256^ (15-i))else bI first nonce n i q)=bI first nonce n (i-1) q:=by
 unfold bI
 rcases Nat.lt_trichotomy q i with h|h|h
 ·rw[if_neg (by omega),if_neg (by omega),if_neg (by omega)]
 ·rw[if_pos h,if_pos (by omega),b0Z,if_neg (by omega),if_neg (by omega),h]
 rw[if_neg (by omega),if_pos h,if_pos (by omega)]
theorem u8_zero:u8 0=0:=by decide
theorem u0n {first:UInt8}{nonce:List UInt8}{n:Int}{i:Nat}(h:i≤nonce.length∨n/256^ (15-i)≤0)(hn:0≤n)(hi:i≤15)(q:Nat)(hq:q<16):bI first nonce n i q=b0Z first nonce n q:=by
 unfold bI
 by_cases h1:i<q
 ·rw[if_pos h1]
 rw[if_neg h1]
 unfold b0F b0Z
 by_cases h0:q=0
 ·rw[if_pos h0,if_pos h0]
 rw[if_neg h0,if_neg h0]
 by_cases h2:q≤nonce.length
 ·rw[if_pos h2,if_pos h2]
 rw[if_neg h2,if_neg h2]
 rcases h with h|h
 ·omega
 have hz:n/256^ (15-i)=0:=Int.le_antisymm h (Int.ediv_nonneg hn (Int.pow_nonneg (by decide)))
 have hq0:n/256^ (15-q)=0:=by
  rw[show 15-q=(15-i)+(i-q) by omega,Int.pow_add,←Int.ediv_ediv_of_nonneg (Int.pow_nonneg (by decide)),hz,Int.zero_ediv]
 rw[hq0];exact u8_zero.symm
theorem f0R (first:UInt8)(nonce:List UInt8)(n:Int)(hl:nonce.length≤13)(hn:0≤n∧n≤9223372036854775807):Sp Tryz.prog 180 [by8 first,roB nonce,.val (.int .i64 n)] [] (Is (.agg (arB 16 (b0Z first nonce n)))):=by
 have hl:nonce.length≤15:=by omega
 refine yH Tryz.func180 _ Tryz.ntmps180 (fun w0 R0=> ?_)
 refine zC (zq ?_)
 refine zd ?_
 intro B1
 refine zH (zn (zC (zq ?_)))
 refine zb ?_
 refine zM ?_
 refine zd ?_
 intro B2
 refine AO.store (i:=0) rfl rfl rfl rfl rfl rfl (by rfl) (by rfl) (by rfl) (by rfl) (by(dsimp only[List.set,cA,cN,List.take,List.drop];done)) (zH (zn (zC (zq ?_))))
 refine vO (O.sliceArrK (p:=1) rfl rfl rfl rfl (by rfl) (by rfl) ⟨by omega,by omega⟩ (by omega)) ?_
 refine zb ?_
 refine AO.copyIn (i:=0) rfl rfl rfl rfl (by exact c0z _) (by exact g0N _) rfl (by show 0+1*1+min nonce.length (16-1)≤16;omega) (by exact v0u hl) rfl rfl (fun q h=>by cases h;exact lB rfl) ?_
 rintro _ rfl
 dsimp only[List.set]
 refine zH (zn (zC (zC (zq ?_))))
 refine zc (zH (zn (xb ?_)))
 have e0:arB 16 (b0F first nonce)=arB 16 (bI first nonce n 15):=a0d fun q hq=>by unfold bI;rw[if_neg (by omega)]
 rw[e0]
 refine zh [(1,_),(6,_),(7,_)] (fun nn E H=> ∃(i:Nat) (v:Int),(i≤15∧nonce.length≤i)∧(v=n/256^ (15-i))∧i=nn∧E= [(2,.val (.int .i64 v)),(8,.val (.int .i64 (i:Int)))]∧H= [.blk B2 171 16 (arB 16 (bI first nonce n i)),.blk B1 171 16 (arB 16 fun _=>0)]) _ (⟨15,n,by omega,by simp,rfl,rfl,rfl⟩) ?_
 rintro nn E H ⟨i,v,hi,hv,rfl,rfl,rfl⟩
 dsimp only[cA,cN]
 have hv0:0≤v:=by rw[hv];exact Int.ediv_nonneg hn.1 (Int.pow_nonneg (by decide))
 have hv1:v≤n:=by rw[hv];exact Int.ediv_le_self _ hn.1
 refine zC (zC (zq ?_))
 refine zb ?_
 refine zb ?_
 refine zZ ?_
 refine yN ?_
 refine zb ?_
 refine yl ?_
 refine yy 19 ?_
 refine zN (zH (zn ?_))
 refine ym (fun h=> ?_) (fun h=> ?_)<;>(try simp only[vU]at h)
 ·obtain⟨j,rfl⟩: ∃j,i=j+1:=⟨i-1,by omega⟩
  refine yU (zn (zC (xb (zC (zq ?_)))))
  refine zb ?_
  refine zb ?_
  refine y4 ?_
  refine wR ?_
  refine yF 0 rfl rfl rfl rfl rfl rfl (by rfl) (by rfl) (by exact Nat.ble_eq_true_of_le (by rw[a0b];omega)) (by exact a0K (k:=j+1) (by omega) _ (by omega)) (zH (zn (zq ?_)))
  refine zb ?_
  refine wZ ?_
  refine zc (zH (xA (zn (zq ?_))))
  refine zb ?_
  refine yG ?_
  refine zc (zH ?_)
  have e1:arB 16 (fun q=>if q=j+1 then u8 v else bI first nonce n (j+1) q)=arB 16 (bI first nonce n j):=a0d fun q _=>by
   rw[hv];exact s0D (by omega) (by omega) q
  rw[e1,show((j+1:Nat):Int)-1=(j:Int) by omega]
  have hv2:v/256=n/256^ (15-j):=by rw[hv,p0a];congr 2;omega
  refine zr _ _ _ (by omega) (⟨j,v/256,by omega,hv2,rfl,rfl,rfl⟩)
 have e2:arB 16 (bI first nonce n i)=arB 16 (b0Z first nonce n):=a0d fun q hq=>u0n (by rw[←hv];omega) hn.1 hi.1 q hq
 rw[e2]
 refine wm ?_
 refine xY ?_
 refine wa ?_
 refine xq (zn (zC (zq ?_)))
 refine xu ?_
 refine yh 1 (zH (zn (y3 ?_)))
 refine AQ.retCell (ys:=arB 16 (b0Z first nonce n)) rfl rfl mM (List.take_of_length_le (Nat.le_of_eq (a0b _ _))) (a0b _ _) nS ⟨rfl,rfl⟩
def absorb (w:Nat→UInt8)(x:Nat→UInt8)(l:List UInt8):Nat→UInt8:=
 if h:l= []then x else absorb w (enc w fun q=>x q^^^kf l q) (l.drop 16)
termination_by l.length
decreasing_by
 have:0<l.length:=List.length_pos_iff.2 h
 simp;omega
theorem b0k (w x:Nat→UInt8):absorb w x []=x:=by rw[absorb,dif_pos rfl]
theorem b0h {w x:Nat→UInt8}{l:List UInt8}(h:l≠ []):absorb w x l=absorb w (enc w fun q=>x q^^^kf l q) (l.drop 16):=by rw[absorb,dif_neg h]
theorem h0m (l:List UInt8){q:Nat}(h:l.length≤q):kf l q=0:=by simp[kf,h]
theorem f0N (w:Nat→UInt8)(b:Nat)(x:Nat→UInt8)(l:List UInt8)(hl:l.length≤1000000):Sp Tryz.prog 198 [roB l,pt b,.rp [.rp (g0k w) 0] 0] [.blk b 171 16 (arB 16 x)] (IsM (.agg (arB 16 (absorb w x l))) (.blk b 171 16 (arB 16 (absorb w x l)))):=by
 refine yH Tryz.func198 _ Tryz.ntmps198 (fun w0 R0=> ?_)
 refine zC (zq ?_)
 refine zd ?_
 intro B1
 refine zH (zn (zC (xb ?_)))
 refine zh [(1,_),(2,_),(4,_)] (fun nn E H=> ∃(l':List UInt8) (x':Nat→UInt8),(absorb w x' l'=absorb w x l)∧(l'.length≤1000000)∧nn=l'.length∧E= [(0,roB l')]∧H= [.blk B1 171 16 (arB 16 fun _=>0),.blk b 171 16 (arB 16 x')]) _ (⟨l,x,rfl,hl,rfl,rfl,rfl⟩) ?_
 rintro nn E H ⟨l',x',hx,hl',rfl,rfl,rfl⟩
 dsimp only[cA,cN]
 refine zC (zC (zq ?_))
 refine zb ?_
 refine zZ ?_
 refine yN (zH (zn ?_))
 refine ym (fun h=> ?_) (fun h=> ?_)<;>(try simp only[vU]at h)
 ·obtain⟨n,hn⟩: ∃n:Nat,n=min l'.length 16:=⟨_,rfl⟩
  have hmin:(if(16:Int)<(l'.length:Int)then(16:Int)else(l'.length:Int))=(n:Int):=by split<;>omega
  have hln:(l'.take n).length=n:=by rw[List.length_take];omega
  have hne:l'≠ []:=fun e=>by rw[e]at h;simp at h
  have hdr:l'.drop n=l'.drop 16:=by
   rcases Nat.lt_or_ge 16 l'.length with h1|h1
   ·rw[show n=16 by omega]
   rw[List.drop_eq_nil_of_le (by omega),List.drop_eq_nil_of_le (by omega)]
  refine yU (zn (zC (xb (zC (zC (zq ?_))))))
  refine zb ?_
  refine zb ?_
  refine zZ ?_
  refine vO (O.minI rfl rfl rfl hmin) ?_
  refine vO (O.sliceToB (k:=n) rfl rfl rfl (by rfl) (by omega)) ?_
  refine zZ ?_
  refine zb (zH (zn (xb ?_)))
  have e0:arB 16 x'=arB 16 (fun q=>if q<0 then x' q^^^kf l' q else x' q):=a0d fun q _=>(if_neg (by omega)).symm
  rw[e0]
  refine zh [(0,_),(1,_),(2,_),(4,_),(19,_),(20,_)] (fun nn E H=> ∃(i:Nat),(i≤n)∧nn=n-i∧E= [(21,.val (.int .i64 (i:Int)))]∧H= [.blk B1 171 16 (arB 16 fun _=>0),.blk b 171 16 (arB 16 fun q=>if q<i then x' q^^^kf l' q else x' q)]) _ (⟨0,by omega,rfl,rfl,rfl⟩) ?_
  rintro nn E H ⟨i,hi,rfl,rfl,rfl⟩
  dsimp only[cA,cN]
  refine zC (zq ?_)
  refine zR (zH (zn (zC ?_)))
  refine ym (fun h2=> ?_) (fun h2=> ?_)<;>(try simp only[vU]at h2)
  ·have hi':i<n:=by omega
   have hget:(a0a (l'.take n))[Int.toNat (i:Int)*1]? =some (by8 (kf l' i)):=by
    rw[b0a (k:=i) (by omega) (by omega)]
    have:bt (l'.take n) i=kf l' i:=by
     have h3:i<l'.length:=by omega
     simp[bt,kf,List.getElem?_take,hi',h3]
    rw[this]
   refine yU (zn (zC (xb (zC (zq ?_)))))
   refine zb ?_
   refine yf ?_
   refine vO (O.loadR rfl rfl (by exact hget)) ?_
   refine zc ?_
   refine zc (zH (zn (zq ?_)))
   refine zb ?_
   refine wR ?_
   refine vO (O.load rfl rfl mM (by exact a0p (k:=i) (by omega) (by omega))) ?_
   refine zb ?_
   refine vE ?_
   refine wR ?_
   refine yF 1 rfl rfl rfl rfl rfl rfl (by rfl) (by rfl) (by exact Nat.ble_eq_true_of_le (by rw[a0b];omega)) (by exact a0K (k:=i) (by omega) _ (by omega)) (zH (xA (zn (zq ?_))))
   refine zx ?_
   refine zb (zH ?_)
   have e1:arB 16 (fun q=>if q=i then(if i<i then x' i^^^kf l' i else x' i)^^^kf l' i else if q<i then x' q^^^kf l' q else x' q)=arB 16 (fun q=>if q<i+1 then x' q^^^kf l' q else x' q):=a0d fun q _=>by
    rcases Nat.lt_trichotomy q i with h1|h1|h1
    ·rw[if_neg (by omega),if_pos h1,if_pos (by omega)]
    ·rw[if_pos h1,if_neg (by omega),if_pos (by omega),h1]
    rw[if_neg (by omega),if_neg (by omega),if_neg (by omega)]
   rw[e1]
   refine zr _ _ _ (by omega) (⟨i+1,by omega,rfl,rfl,rfl⟩)
  obtain rfl:i=n:=by omega
  have e2:arB 16 (fun q=>if q<i then x' q^^^kf l' q else x' q)=arB 16 (fun q=>x' q^^^kf l' q):=a0d fun q hq=>by
   by_cases h3:q<i
   ·rw[if_pos h3]
   rw[if_neg h3,h0m l' (by omega),q0U]
  rw[e2]
  refine wm ?_
  refine xY ?_
  refine wa ?_
  refine xq (zn (zq ?_))
  refine vO (O.loadR rfl rfl (by rfl)) ?_
  refine vv ?_
  refine vO (xD rfl Tryz.func179 rfl rfl rfl (h0s w _)) ?_
  refine yh 1 (zH (xA (zn (zq ?_))))
  refine zb ?_
  refine zb ?_
  refine zZ ?_
  refine vO (O.minI rfl rfl rfl hmin) ?_
  refine vO (O.sliceFromB (k:=i) rfl rfl rfl (by rfl) (by omega)) ?_
  refine zc (zH ?_)
  rw[hdr]
  refine zr _ _ _ (by rw[List.length_drop];omega) (⟨l'.drop 16,enc w fun q=>x' q^^^kf l' q,by rw[←b0h hne];exact hx,by rw[List.length_drop];omega,rfl,rfl,rfl⟩)
 obtain rfl:l'= []:=List.eq_nil_of_length_eq_zero (by omega)
 rw[b0k]at hx
 subst hx
 refine wm ?_
 refine xY ?_
 refine wa ?_
 refine xq (zn (zC (zq ?_)))
 refine vv ?_
 refine yh 0 (zH (zn (y3 ?_)))
 refine AQ.retCell (ys:=arB 16 (absorb w x l)) rfl rfl (by repeat(exact List.Mem.head _)) (List.take_of_length_le (Nat.le_of_eq (a0b _ _))) (a0b _ _) ⟨_,List.Sublist.cons _ (List.Sublist.cons_cons _ List.Sublist.slnil),.refl _⟩ ⟨rfl,rfl⟩
end Go.Proofs.YtojomcdjcpmnkaaGreat.By
