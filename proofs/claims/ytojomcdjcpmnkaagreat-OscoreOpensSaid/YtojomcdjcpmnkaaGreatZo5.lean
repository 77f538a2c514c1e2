/-
  Texts laid together (part 5): what the statement's walk and plain law need. No condition.
-/
import Derived.Test.YtojomcdjcpmnkaaGreatZo4
set_option linter.unusedVariables false
set_option linter.unusedSimpArgs false
set_option maxRecDepth 20000
set_option maxHeartbeats 4000000
namespace Go.Proofs.YtojomcdjcpmnkaaGreat.By
open Go.RowKit L A
attribute [local irreducible] AW AQ AO
abbrev pt (b:Nat):AV:= .val (.pointer (some ⟨b,0,none⟩))
abbrev stB (b:Nat)(f:Nat→UInt8):HE:= .blk b 185 16 (arB 16 f)
theorem n0N {b:Nat}{f g:Nat→UInt8}(h: ∀q,q<16→f q=g q): [stB b f]= [stB b g]:=congrArg (fun x=> [HE.blk b 185 16 x]) (a0c h)
theorem h0M {b:Nat}{f g:Nat→UInt8}(h: ∀q,q<16→f q=g q):stB b f=stB b g:=congrArg (fun x=>HE.blk b 185 16 x) (a0c h)
theorem k0c (b:Nat)(f k:Nat→UInt8):Sp Tryz.prog 206 [pt b,.agg (arB 16 k)] [stB b f] (IsM (.val (.tuple #[])) (stB b fun q=>f q^^^k q)):=by
 refine yX Tryz.func206 _ Tryz.ntmps206 (fun w0 R0=> ?_)
 refine zD (zr ?_)
 refine yo ?_
 intro B1
 refine zJ (zn (zD (zr ?_)))
 refine zb (zJ (zn (xo ?_)))
 refine zi [(0,_),(3,_)] (fun nn E H=> ∃(i:Nat),(i≤16)∧nn=16-i∧E= [(5,.val (.int .i64 (i:Int)))]∧H= [.blk B1 185 16 (arB 16 k),stB b (fun q=>if q<i then f q^^^k q else f q)]) _ (⟨0,by omega,rfl,rfl,rfl⟩) ?_
 rintro nn E H ⟨i,hi,rfl,rfl,rfl⟩
 dsimp only[cA,cN]
 refine zD (zr ?_)
 refine zT (zJ (zn (zD ?_)))
 refine yt (fun h=> ?_) (fun h=> ?_)<;>(try simp only[vT]at h)
 ·refine y6 (zn (zD (xo (zD (zr ?_)))))
  refine zb ?_
  refine zc (zJ (zn ?_))
  refine yA 11 ?_
  simp only[cT,cZ,cD,cO]
  refine zH ?_
  refine zH ?_
  refine vP vM ?_
  refine yY ?_
  refine vP (O.load rfl rfl mM (by exact a0o (k:=i) (by omega) (by omega))) ?_
  refine zH ?_
  refine yY ?_
  refine vP (O.load rfl rfl (by repeat(exact List.Mem.head _)) (by exact a0o (k:=i) (by omega) (by omega))) ?_
  refine wq ?_
  refine vP vM ?_
  refine yY ?_
  refine vb ?_
  simp only[a0h,cN,cA,cP]
  refine yO 1 rfl rfl rfl rfl rfl rfl (by rfl) (by rfl) (by exact Nat.ble_eq_true_of_le (by rw[a0b];omega)) (by exact a0P (k:=i) (by omega) _ (by omega)) (zJ (xE (zn (zr ?_))))
  refine zB ?_
  refine zb (zJ ?_)
  have e:stB b (fun q=>if q=i then(if i<i then f i^^^k i else f i)^^^k i else if q<i then f q^^^k q else f q)=stB b (fun q=>if q<i+1 then f q^^^k q else f q):=h0M fun q _=>by
   rcases Nat.lt_trichotomy q i with h1|rfl|h1
   ·rw[if_neg (by omega),if_pos h1,if_pos (by omega)]
   ·rw[if_pos rfl,if_neg (by omega),if_pos (by omega)]
   rw[if_neg (by omega),if_neg (by omega),if_neg (by omega)]
  refine zu _ _ _ (by omega) (⟨i+1,by omega,rfl,rfl,congrArg (fun x=> [HE.blk B1 185 16 (arB 16 k),x]) e⟩)
 obtain rfl:i=16:=by omega
 refine wj ?_
 refine x8 ?_
 refine wd ?_
 refine xD ?_
 have e: [stB b (fun q=>if q<16 then f q^^^k q else f q)]= [stB b (fun q=>f q^^^k q)]:=n0N fun q hq=>if_pos hq
 refine AQ.retN (AQ.ret0 rfl ⟨_,by repeat(first|exact List.Sublist.slnil|refine List.Sublist.cons_cons _ ?_|refine List.Sublist.cons _ ?_),List.Perm.refl _⟩ (⟨rfl,e⟩))
theorem n0I (v:UInt8):0≤(v.toNat:Int)∧(v.toNat:Int)<((256:Nat):Int):=by have:=v.toNat_lt;omega
def l0a (xs:List AV)(o:Nat)(S:UInt8→UInt8):Prop:= ∀v:UInt8,xs[o+v.toNat]? =some (by8 (S v))
def shF (S:UInt8→UInt8)(d:Nat)(f:Nat→UInt8)(i:Nat):UInt8:=S (f (i%4+4*((i/4+d*(i%4))%4)))
theorem s0S {i:Nat}(hi:i<16)(f:Nat→UInt8):(arB 16 f)[0+((i:Int)%4+4*(((i:Int)/4+1*((i:Int)%4))%4)).toNat*1]? =some (by8 (f (i%4+4*((i/4+1*(i%4))%4)))):=
 a0o (by omega) (by
  have:((i:Int)%4+4*(((i:Int)/4+1*((i:Int)%4))%4))=((i%4+4*((i/4+1*(i%4))%4):Nat):Int):=by push_cast;rfl
  rw[this,Int.toNat_natCast];omega)
theorem f0i {xs:List AV}{o:Nat}{S:UInt8→UInt8}(h:l0a xs o S)(v:UInt8):xs[o+(v.toNat:Int).toNat*1]? =some (by8 (S v)):=by rw[Int.toNat_natCast,Nat.mul_one];exact h v
theorem n0W (b:Nat)(f:Nat→UInt8)(xs:List AV)(o:Nat)(S:UInt8→UInt8)(hS:l0a xs o S):Sp Tryz.prog 207 [pt b,.rp xs o,.val (.int .i64 1)] [stB b f] (IsM (.val (.tuple #[])) (stB b (shF S 1 f))):=by
 refine yX Tryz.func207 _ Tryz.ntmps207 (fun w0 R0=> ?_)
 refine zD (zr ?_)
 refine zb ?_
 refine vA ?_
 refine zC ?_
 refine zd ?_
 intro B1
 refine AO.store (i:=0) rfl rfl rfl rfl rfl rfl (by rfl) (by rfl) (by rfl) (by exact b0K rfl) (by(dsimp only[List.set,cA,cN,List.take,List.drop];done)) (zJ (zn (zD (zr ?_))))
 refine zb (zJ (zn (xo ?_)))
 refine zi [(0,_),(1,_),(2,_),(6,_)] (fun nn E H=> ∃(i:Nat),(i≤16)∧nn=16-i∧E= [(13,.val (.int .i64 (i:Int)))]∧H= [.blk B1 185 16 (arB 16 f),stB b (fun q=>if q<i then shF S 1 f q else f q)]) _ (⟨0,by omega,rfl,rfl,rfl⟩) ?_
 rintro nn E H ⟨i,hi,rfl,rfl,rfl⟩
 dsimp only[cA,cN]
 refine zD (zr ?_)
 refine zT (zJ (zn (zD ?_)))
 refine yt (fun h=> ?_) (fun h=> ?_)<;>(try simp only[vT]at h)
 ·have hi':i<16:=by omega
  refine y6 (zn (zD (xo (zD (zr ?_)))))
  refine zb ?_
  refine zc (zJ (zn (zD (zr ?_))))
  refine zb ?_
  refine wn ?_
  refine zb ?_
  refine wL ?_
  refine zc ?_
  refine zc (zJ (zn ?_))
  refine yA 19 ?_
  simp only[cT,cZ,cD,cO]
  refine zH ?_
  refine zH ?_
  refine zH ?_
  refine zH ?_
  refine zH ?_
  refine zH ?_
  refine zH ?_
  refine xv ?_
  refine xm ?_
  refine vP wh ?_
  refine xv ?_
  refine xm ?_
  refine xp ?_
  refine vP (O.load rfl rfl (by repeat(exact List.Mem.head _)) (by exact s0S hi' f)) ?_
  refine vP (O.nilCheckR rfl rfl) ?_
  refine vP (O.idxLR rfl rfl rfl (by exact n0I _)) ?_
  refine vP (O.loadR rfl rfl (by exact f0i hS _)) ?_
  refine vP vM ?_
  refine xp ?_
  refine vb ?_
  simp only[a0h,cN,cA,cP]
  refine yO 1 rfl rfl rfl rfl rfl rfl (by rfl) (by rfl) (by exact Nat.ble_eq_true_of_le (by rw[a0b];omega)) (by exact a0P (k:=i) (by omega) _ (by omega)) (zJ (xE (zn (zr ?_))))
  refine zB ?_
  refine zb (zJ ?_)
  have e:stB b (fun q=>if q=i then shF S 1 f i else if q<i then shF S 1 f q else f q)=stB b (fun q=>if q<i+1 then shF S 1 f q else f q):=h0M fun q _=>by
   rcases Nat.lt_trichotomy q i with h1|rfl|h1
   ·rw[if_neg (by omega),if_pos h1,if_pos (by omega)]
   ·rw[if_pos rfl,if_pos (by omega)]
   rw[if_neg (by omega),if_neg (by omega),if_neg (by omega)]
  refine zu _ _ _ (by omega) (⟨i+1,by omega,rfl,rfl,congrArg (fun x=> [HE.blk B1 185 16 (arB 16 f),x]) e⟩)
 obtain rfl:i=16:=by omega
 refine wj ?_
 refine x8 ?_
 refine wd ?_
 refine xD ?_
 have e: [stB b (fun q=>if q<16 then shF S 1 f q else f q)]= [stB b (shF S 1 f)]:=n0N fun q hq=>if_pos hq
 refine AQ.retN (AQ.ret0 rfl ⟨_,by repeat(first|exact List.Sublist.slnil|refine List.Sublist.cons_cons _ ?_|refine List.Sublist.cons _ ?_),List.Perm.refl _⟩ (⟨rfl,e⟩))
def s0f (f m:Nat→UInt8)(i:Nat):Nat→UInt8
 |0=>0
 |k+1=>s0f f m i k^^^m0F (f (4*(i/4)+(i%4+k)%4)) (m k)
def f0w (f m:Nat→UInt8)(i:Nat):UInt8:=s0f f m i 4
theorem v0s {i k:Nat}(hi:i<16)(f:Nat→UInt8):(arB 16 f)[0+(4*((i:Int)/4)+((i:Int)%4+(k:Int))%4).toNat*1]? =some (by8 (f (4*(i/4)+(i%4+k)%4))):=
 a0o (by omega) (by
  have:(4*((i:Int)/4)+((i:Int)%4+(k:Int))%4)=((4*(i/4)+(i%4+k)%4:Nat):Int):=by push_cast;rfl
  rw[this,Int.toNat_natCast];omega)
def s0e (f m:Nat→UInt8)(i k q:Nat):UInt8:=if q=i then s0f f m i k else if q<i then f0w f m q else f q
theorem v0r (b:Nat)(f m:Nat→UInt8):Sp Tryz.prog 208 [pt b,.agg (arB 4 m)] [stB b f] (IsM (.val (.tuple #[])) (stB b (f0w f m))):=by
 refine yX Tryz.func208 _ Tryz.ntmps208 (fun w0 R0=> ?_)
 refine zD (zr ?_)
 refine yo ?_
 intro B1
 refine zJ (zn (zD (zr ?_)))
 refine zb ?_
 refine vA ?_
 refine zA ?_
 refine zd ?_
 intro B2
 refine AO.store (i:=0) rfl rfl rfl rfl rfl rfl (by rfl) (by rfl) (by rfl) (by exact b0K rfl) (by(dsimp only[List.set,cA,cN,List.take,List.drop];done)) (zJ (zn (zD (zr ?_))))
 refine zb (zJ (zn (xo ?_)))
 refine xQ [(0,_),(3,_),(4,_)] (fun nn E H=> ∃(i:Nat),(i≤16)∧nn=16-i∧E= [(12,.val (.int .i64 (i:Int)))]∧H= [.blk B1 215 4 (arB 4 m),.blk B2 185 16 (arB 16 f),stB b (fun q=>if q<i then f0w f m q else f q)]) _ (⟨0,by omega,rfl,rfl,rfl⟩) ?_
 rintro nn E H ⟨i,hi,rfl,rfl,rfl⟩
 dsimp only[cA,cN]
 refine zD (zr ?_)
 refine zT (zJ (zn (zD ?_)))
 refine yt (fun h=> ?_) (fun h=> ?_)<;>(try simp only[vT]at h)
 ·have hi':i<16:=by omega
  refine y6 (zn (zD (xo (zD (zr ?_)))))
  refine zb ?_
  refine zc (zJ (zn (zD (zr ?_))))
  refine zb ?_
  refine wn ?_
  refine zb ?_
  refine wL ?_
  refine zc ?_
  refine zc (zJ (zn (zD (zr ?_))))
  refine zb ?_
  refine zb ?_
  refine vA ?_
  refine xV ?_
  refine yO 2 rfl rfl rfl rfl rfl rfl (by rfl) (by rfl) (by exact Nat.ble_eq_true_of_le (by rw[a0b];omega)) (by exact a0P (k:=i) (by omega) 0 (by omega)) (zJ (zn (zD (zr ?_))))
  refine zb (zJ (zn (xo ?_)))
  have e0:stB b (fun q=>if q=i then 0 else if q<i then f0w f m q else f q)=stB b (s0e f m i 0):=rfl
  refine zi [(0,_),(3,_),(4,_),(5,_),(6,_),(7,_),(12,_)] (fun nn E H=> ∃(k:Nat),(k≤4)∧nn=4-k∧E= [(23,.val (.int .i64 (k:Int)))]∧H= [.blk B1 215 4 (arB 4 m),.blk B2 185 16 (arB 16 f),stB b (s0e f m i k)]) _ (⟨0,by omega,rfl,rfl,rfl⟩) ?_
  rintro nn E H ⟨k,hk,rfl,rfl,rfl⟩
  dsimp only[cA,cN]
  refine zD (zr ?_)
  refine zT (zJ (zn (zD ?_)))
  refine yt (fun h2=> ?_) (fun h2=> ?_)<;>(try simp only[vT]at h2)
  ·have hk':k<4:=by omega
   refine y6 (zn (zD (xo (zD (zr ?_)))))
   refine zb ?_
   refine zc (zJ (zn ?_))
   refine yA 21 ?_
   simp only[cT,cZ,cD,cO]
   refine zH ?_
   refine zH ?_
   refine vP vM ?_
   refine xp ?_
   refine vP (O.load rfl rfl mM (by exact a0o (k:=i) (by omega) (by omega))) ?_
   refine zH ?_
   refine xv ?_
   refine zH ?_
   refine zH ?_
   refine xm ?_
   refine vP wh ?_
   refine xm ?_
   refine xp ?_
   refine vP (O.load rfl rfl mM (by exact v0s hi' f)) ?_
   refine zH ?_
   refine xp ?_
   refine vP (O.load rfl rfl (by repeat(exact List.Mem.head _)) (by exact a0o (k:=k) (by omega) (by omega))) ?_
   refine vP (xM rfl Tryz.func212 rfl rfl rfl (m0E _ _)) ?_
   refine wq ?_
   refine vP vM ?_
   refine xp ?_
   refine vb ?_
   simp only[a0h,cN,cA,cP]
   refine yO 2 rfl rfl rfl rfl rfl rfl (by rfl) (by rfl) (by exact Nat.ble_eq_true_of_le (by rw[a0b];omega)) (by exact a0P (k:=i) (by omega) _ (by omega)) (zJ (xE (zn (zr ?_))))
   refine zB ?_
   refine zb (zJ ?_)
   have e:stB b (fun q=>if q=i then s0e f m i k i^^^m0F (f (4*(i/4)+(i%4+k)%4)) (m k)else s0e f m i k q)=stB b (s0e f m i (k+1)):=h0M fun q _=>by
    unfold s0e
    by_cases h1:q=i
    ·rw[if_pos h1,if_pos h1,if_pos rfl];rfl
    rw[if_neg h1,if_neg h1,if_neg h1]
   refine zu _ _ _ (by omega) (⟨k+1,by omega,rfl,rfl,congrArg (fun x=> [HE.blk B1 215 4 (arB 4 m),HE.blk B2 185 16 (arB 16 f),x]) e⟩)
  obtain rfl:k=4:=by omega
  refine wj ?_
  refine x8 ?_
  refine wd ?_
  refine xD (xE (zn (zr ?_)))
  refine zB ?_
  refine zb (zJ ?_)
  have e:stB b (s0e f m i 4)=stB b (fun q=>if q<i+1 then f0w f m q else f q):=h0M fun q _=>by
   unfold s0e
   rcases Nat.lt_trichotomy q i with h1|rfl|h1
   ·rw[if_neg (by omega),if_pos h1,if_pos (by omega)]
   ·rw[if_pos rfl,if_pos (by omega)];rfl
   rw[if_neg (by omega),if_neg (by omega),if_neg (by omega)]
  refine zu _ _ _ (by omega) (⟨i+1,by omega,rfl,rfl,congrArg (fun x=> [HE.blk B1 215 4 (arB 4 m),HE.blk B2 185 16 (arB 16 f),x]) e⟩)
 obtain rfl:i=16:=by omega
 refine wj ?_
 refine x8 ?_
 refine wd ?_
 refine xD ?_
 have e: [stB b (fun q=>if q<16 then f0w f m q else f q)]= [stB b (f0w f m)]:=n0N fun q hq=>if_pos hq
 refine AQ.retN (AQ.ret0 rfl ⟨_,by repeat(first|exact List.Sublist.slnil|refine List.Sublist.cons_cons _ ?_|refine List.Sublist.cons _ ?_),List.Perm.refl _⟩ (⟨rfl,e⟩))
def PW:List UInt8:= [1,3,5,15,17,51,85,255,26,46,114,150,161,248,19,53,95,225,56,72,216,115,149,164,247,2,6,10,30,34,102,170,229,52,92,228,55,89,235,38,106,190,217,112,144,171,230,49,83,245,4,12,20,60,68,204,79,209,104,184,211,110,178,205,76,212,103,169,224,59,77,215,98,166,241,8,24,40,120,136,131,158,185,208,107,189,220,127,129,152,179,206,73,219,118,154,181,196,87,249,16,48,80,240,11,29,39,105,187,214,97,163,254,25,43,125,135,146,173,236,47,113,147,174,233,32,96,160,251,22,58,78,210,109,183,194,93,231,50,86,250,21,63,65,195,94,226,61,71,201,64,192,91,237,44,116,156,191,218,117,159,186,213,100,172,239,42,126,130,157,188,223,122,142,137,128,155,182,193,88,232,35,101,175,234,37,111,177,200,67,197,84,252,31,33,99,165,244,7,9,27,45,119,153,176,203,70,202,69,207,74,222,121,139,134,145,168,227,62,66,198,81,243,14,18,54,90,238,41,123,141,140,143,138,133,148,167,242,13,23,57,75,221,124,132,151,162,253,28,36,108,180,199,82,246,1]
def SB:List UInt8:= [99,124,119,123,242,107,111,197,48,1,103,43,254,215,171,118,202,130,201,125,250,89,71,240,173,212,162,175,156,164,114,192,183,253,147,38,54,63,247,204,52,165,229,241,113,216,49,21,4,199,35,195,24,150,5,154,7,18,128,226,235,39,178,117,9,131,44,26,27,110,90,160,82,59,214,179,41,227,47,132,83,209,0,237,32,252,177,91,106,203,190,57,74,76,88,207,208,239,170,251,67,77,51,133,69,249,2,127,80,60,159,168,81,163,64,143,146,157,56,245,188,182,218,33,16,255,243,210,205,12,19,236,95,151,68,23,196,167,126,61,100,93,25,115,96,129,79,220,34,42,144,136,70,238,184,20,222,94,11,219,224,50,58,10,73,6,36,92,194,211,172,98,145,149,228,121,231,200,55,109,141,213,78,169,108,86,244,234,101,122,174,8,186,120,37,46,28,166,180,198,232,221,116,31,75,189,139,138,112,62,181,102,72,3,246,14,97,53,87,185,134,193,29,158,225,248,152,17,105,217,142,148,155,30,135,233,206,85,40,223,140,161,137,13,191,230,66,104,65,153,45,15,176,84,187,22]
def IV:List UInt8:= [82,9,106,213,48,54,165,56,191,64,163,158,129,243,215,251,124,227,57,130,155,47,255,135,52,142,67,68,196,222,233,203,84,123,148,50,166,194,35,61,238,76,149,11,66,250,195,78,8,46,161,102,40,217,36,178,118,91,162,73,109,139,209,37,114,248,246,100,134,104,152,22,212,164,92,204,93,101,182,146,108,112,72,80,253,237,185,218,94,21,70,87,167,141,157,132,144,216,171,0,140,188,211,10,247,228,88,5,184,179,69,6,208,44,30,143,202,63,15,2,193,175,189,3,1,19,138,107,58,145,17,65,79,103,220,234,151,242,207,206,240,180,230,115,150,172,116,34,231,173,53,133,226,249,55,232,28,117,223,110,71,241,26,113,29,41,197,137,111,183,98,14,170,24,190,27,252,86,62,75,198,210,121,32,154,219,192,254,120,205,90,244,31,221,168,51,136,7,199,49,177,18,16,89,39,128,236,95,96,81,127,169,25,181,74,13,45,229,122,159,147,201,156,239,160,224,59,77,174,42,245,176,200,235,187,60,131,83,153,97,23,43,4,126,186,119,214,38,225,105,20,99,85,33,12,125]
def LG:List Nat:= [255,0,25,1,50,2,26,198,75,199,27,104,51,238,223,3,100,4,224,14,52,141,129,239,76,113,8,200,248,105,28,193,125,194,29,181,249,185,39,106,77,228,166,114,154,201,9,120,101,47,138,5,33,15,225,36,18,240,130,69,53,147,218,142,150,143,219,189,54,208,206,148,19,92,210,241,64,70,131,56,102,221,253,48,191,6,139,98,179,37,226,152,34,136,145,16,126,110,72,195,163,182,30,66,58,107,40,84,250,133,61,186,43,121,10,21,155,159,94,202,78,212,172,229,243,115,167,87,175,88,168,80,244,234,214,116,79,174,233,213,231,230,173,232,44,215,117,122,235,22,11,245,89,203,95,176,156,169,81,160,127,12,246,111,23,196,73,236,216,67,31,45,164,118,123,183,204,187,62,90,251,96,177,134,59,82,161,108,170,85,41,157,151,178,135,144,97,190,220,252,188,149,207,205,55,63,91,209,83,57,132,60,65,162,109,71,20,42,158,93,86,242,211,171,68,17,146,217,35,32,46,137,180,124,184,38,119,153,227,165,103,74,237,222,197,49,254,24,13,99,140,128,192,247,112,7]
def pw (i:Nat):UInt8:=PW.getD i 0
def sb (v:UInt8):UInt8:=SB.getD v.toNat 0
def iv (v:UInt8):UInt8:=IV.getD v.toNat 0
def lg (v:UInt8):Nat:=LG.getD v.toNat 0
def tA (i:Nat):UInt8:=if i<255 then pw i else 0
def tB (i:Nat):UInt8:=if i<255 then pw ((255-i)%255)else 0
def tC (i k:Nat):UInt8:=match k with
 |0=>tB i^^^99
 |k+1=>tC i k^^^w0e (tB i) (k+1)
theorem t0p: ∀i,i<255→pw (i+1)=pw i^^^dbl (pw i):=by decide +kernel
theorem n0K: ∀i,i<256→lg (tA i)=i∧sb (tA i)=tC i 4∧iv (tC i 4)=tA i:=by decide +kernel
theorem u0R: ∀n,n<256→tA (lg (UInt8.ofNat n))=UInt8.ofNat n∧lg (UInt8.ofNat n)<256:=by decide +kernel
theorem w0N: ∀n,n<256→iv (sb (UInt8.ofNat n))=UInt8.ofNat n∧sb (iv (UInt8.ofNat n))=UInt8.ofNat n:=by decide +kernel
instance :TyN Tryz.prog 183 512 512 (.agg ⟨List.replicate 512 (.int .u8 0)⟩):=⟨Tryz.t183,Tryz.type183,rfl,rfl,by kernel_rfl⟩
theorem f0O (n:Nat):List.map AV.val (List.replicate n (.int .u8 0))=arB n (fun _=>0):=by
 rw[d0i,List.map_replicate]
 apply List.ext_getElem?
 intro q
 by_cases h:q<n<;>simp[h]
theorem d0a {q:Nat}(hq:q<256){v:UInt8}:UInt8.ofNat q=v↔q=v.toNat:=by
 constructor
 ·rintro rfl;rw[UInt8.toNat_ofNat_of_lt' (by simpa[UInt8.size]using hq)]
 rintro rfl;exact UInt8.ofNat_toNat
theorem w0r (v:UInt8):tA (lg v)=v:=by have:=(u0R v.toNat v.toNat_lt).1;rwa [UInt8.ofNat_toNat]at this
theorem t0M (v:UInt8):lg v<256:=by have:=(u0R v.toNat v.toNat_lt).2;rwa [UInt8.ofNat_toNat]at this
theorem w0w (v:UInt8):sb (iv v)=v:=by have:=(w0N v.toNat v.toNat_lt).2;rwa [UInt8.ofNat_toNat]at this
theorem l0R {i:Nat}(hi:i<256){v:UInt8}:lg v=i↔v=tA i:=by
 constructor
 ·intro h;rw[←h];exact(w0r v).symm
 rintro rfl;exact(n0K i hi).1
def tT (i q:Nat):UInt8:=if q<256 then(if lg (UInt8.ofNat q)<i then sb (UInt8.ofNat q)else 0)else(if lg (iv (UInt8.ofNat (q-256)))<i then iv (UInt8.ofNat (q-256))else 0)
def TB (q:Nat):UInt8:=if q<256 then sb (UInt8.ofNat q)else iv (UInt8.ofNat (q-256))
theorem s0M {i:Nat}(hi:i<256)(q:Nat)(hq:q<512):(if q=256+(tC i 4).toNat then tA i else if q=(tA i).toNat then tC i 4 else tT i q)=tT (i+1) q:=by
 obtain⟨h1,h2,h3⟩:=n0K i hi
 have ha:=(tA i).toNat_lt
 unfold tT
 by_cases hq2:q<256
 ·rw[if_neg (by omega),if_pos hq2,if_pos hq2]
  by_cases e:q=(tA i).toNat
  ·rw[if_pos e]
   have:UInt8.ofNat q=tA i:=(d0a hq2).2 e
   rw[this,h1,if_pos (by omega),h2]
  rw[if_neg e]
  have:lg (UInt8.ofNat q)≠i:=fun hh=>e ((d0a hq2).1 ((l0R hi).1 hh))
  by_cases hl:lg (UInt8.ofNat q)<i
  ·rw[if_pos hl,if_pos (by omega)]
  rw[if_neg hl,if_neg (by omega)]
 rw[if_neg hq2,if_neg hq2]
 by_cases e:q=256+(tC i 4).toNat
 ·rw[if_pos e]
  have:UInt8.ofNat (q-256)=tC i 4:=(d0a (by omega)).2 (by omega)
  rw[this,h3,h1,if_pos (by omega)]
 rw[if_neg e,if_neg (by omega)]
 have:lg (iv (UInt8.ofNat (q-256)))≠i:=fun hh=>e (by
  have h4:=(l0R hi).1 hh
  have h5:=w0w (UInt8.ofNat (q-256))
  rw[h4,h2]at h5
  have:=(d0a (q:=q-256) (by omega)).1 h5.symm
  omega)
 by_cases hl:lg (iv (UInt8.ofNat (q-256)))<i
 ·rw[if_pos hl,if_pos (by omega)]
 rw[if_neg hl,if_neg (by omega)]
theorem u0S (q:Nat):tT 256 q=TB q:=by
 unfold tT TB
 rw[if_pos (t0M _),if_pos (t0M _)]
theorem v0R:l0a (arB 512 TB) 0 sb:=fun v=>by
 have:=v.toNat_lt
 rw[a0o (k:=v.toNat) (by omega) (by omega),TB,if_pos (by omega),UInt8.ofNat_toNat]
theorem u0H (a:UInt8):Go.bits .xor .u8 (a.toNat:Int) 99=((a^^^99).toNat:Int):=d0j (p:=fun a=>Go.bits .xor .u8 (a.toNat:Int) 99=((a^^^99).toNat:Int)) (by decide +kernel) a
theorem s0O:Sp Tryz.prog 177 [] [] (Is (.agg (arB 512 TB))):=by
 refine yX Tryz.func177 _ Tryz.ntmps177 (fun w0 R0=> ?_)
 refine zD (zr ?_)
 refine wz ?_
 intro B1
 refine zJ (zn (zD (zr ?_)))
 refine wz ?_
 intro B2
 refine zJ (zn (zD (zr ?_)))
 refine zc (zJ (zn (zD (zD (zr ?_)))))
 refine zb (zJ (zn (xo ?_)))
 have e0:arB 256 (fun _=>0)=arB 256 (fun q=>if q<0 then pw q else 0):=a0c fun q _=>(if_neg (by omega)).symm
 rw[e0]
 refine zi [(0,_),(1,_)] (fun nn E H=> ∃(i:Nat),(i≤255)∧nn=255-i∧E= [(2,by8 (pw i)),(10,.val (.int .i64 (i:Int)))]∧H= [.blk B2 181 256 (arB 256 (fun q=>if q<i then pw q else 0)),.blk B1 183 512 (arB 512 fun _=>0)]) _ (⟨0,by omega,rfl,rfl,rfl⟩) ?_
 rintro nn E H ⟨i,hi,rfl,rfl,rfl⟩
 dsimp only[cA,cN]
 refine zD (zr ?_)
 refine zT (zJ (zn (zD ?_)))
 refine yt (fun h=> ?_) (fun h=> ?_)<;>(try simp only[vT]at h)
 ·refine y6 (zn (zD (xo (zD (zr ?_)))))
  refine zb ?_
  refine zc (zJ (zn (zD (zr ?_))))
  refine zb ?_
  refine zb ?_
  refine xV ?_
  refine yO 0 rfl rfl rfl rfl rfl rfl (by rfl) (by rfl) (by exact Nat.ble_eq_true_of_le (by rw[a0b];omega)) (by exact a0P (k:=i) (by omega) _ (by omega)) (zJ (zn (zr ?_)))
  refine zb ?_
  refine zb ?_
  refine vO (xM rfl Tryz.func195 rfl rfl rfl (l0Z _)) ?_
  refine vE ?_
  refine zc (zJ (xE (zn (zr ?_))))
  refine zB ?_
  refine zb (zJ ?_)
  have e1:arB 256 (fun q=>if q=i then pw i else if q<i then pw q else 0)=arB 256 (fun q=>if q<i+1 then pw q else 0):=a0c fun q _=>by
   rcases Nat.lt_trichotomy q i with h1|rfl|h1
   ·rw[if_neg (by omega),if_pos h1,if_pos (by omega)]
   ·rw[if_pos rfl,if_pos (by omega)]
   rw[if_neg (by omega),if_neg (by omega),if_neg (by omega)]
  rw[←t0p i (by omega),e1]
  refine zu _ _ _ (by omega) (⟨i+1,by omega,rfl,rfl,rfl⟩)
 obtain rfl:i=255:=by omega
 refine wj ?_
 refine x8 ?_
 refine wd ?_
 refine xD (zn (zD (zr ?_)))
 refine wz ?_
 intro B3
 refine zJ (zn (zD (zD (zr ?_))))
 refine zb (zJ (zn (xo ?_)))
 obtain⟨PB,hPB⟩: ∃PB,PB=arB 256 (fun q=>if q<255 then pw q else 0):=⟨_,rfl⟩
 have hpg: ∀k,k<255→PB[k]? =some (by8 (pw k)):=fun k hk=>by rw[hPB,a0o (k:=k) (by omega) rfl,if_pos hk]
 rw[←hPB]
 have e2:arB 512 (fun _=>0)=arB 512 (tT 0):=a0c fun q _=>by unfold tT;simp
 rw[e2]
 refine zi [(0,_),(1,_),(4,_)] (fun nn E H=> ∃(i:Nat),(i≤256)∧nn=256-i∧E= [(21,.val (.int .i64 (i:Int)))]∧H= [.blk B3 183 512 (arB 512 (tT i)),.blk B2 181 256 PB,.blk B1 183 512 (arB 512 (tT 0))]) _ (⟨0,by omega,rfl,rfl,rfl⟩) ?_
 rintro nn E H ⟨i,hi2,rfl,rfl,rfl⟩
 dsimp only[cA,cN]
 refine zD (zr ?_)
 refine zT (zJ (zn (zD ?_)))
 refine yt (fun h2=> ?_) (fun h2=> ?_)<;>(try simp only[vT]at h2)
 ·have hAl:=(tA i).toNat_lt
  have hCl:=(tC i 4).toNat_lt
  refine y6 (zn (zD (xo (zD (zr ?_)))))
  refine zb ?_
  refine zc (zJ (zn (zD (zr ?_))))
  refine zc ?_
  refine zc (zJ (zn (zD (zD (zr ?_)))))
  refine zb ?_
  refine zT (zJ (zn ?_))
  refine xR True [(0,_),(1,_),(4,_),(21,_)] [(6,by8 (tA i)),(7,by8 (tB i))] [.blk B3 183 512 (arB 512 (tT i)),.blk B2 181 256 PB,.blk B1 183 512 (arB 512 (tT 0))] (fun h24=> ?_) (fun h24=> ?_) (fun hj=> ?_)<;>try(try simp only[vT]at h24)
  ·have hg1:PB[0+(i:Int).toNat*1]? =some (by8 (tA i)):=by
    rw[show 0+(i:Int).toNat*1=i by omega,hpg i (by omega),tA,if_pos (by omega)]
   have hg2:PB[0+((255-(i:Int))%255).toNat*1]? =some (by8 (tB i)):=by
    rw[show 0+((255-(i:Int))%255).toNat*1=(255-i)%255 by omega,hpg _ (by omega),tB,if_pos (by omega)]
   refine yA 10 ?_
   simp only[cT,cZ,cD,cO]
   refine zH ?_
   refine xp ?_
   refine vP (O.load rfl rfl mM (by assumption)) ?_
   refine zH ?_
   refine xX ?_
   refine vP wh ?_
   refine xp ?_
   refine vP (O.load rfl rfl mM (by assumption)) ?_
   refine vB ?_
   refine vB ?_
   refine vb ?_
   simp only[a0h,cN,cA,cP]
   refine zJ ?_
   refine vc
  ·have hA:a0A (.int .u8 0)=by8 (tA i):=by rw[tA,if_neg (by omega)];rfl
   have hB:a0A (.int .u8 0)=by8 (tB i):=by rw[tB,if_neg (by omega)];rfl
   refine y6 ?_
   refine AQ.g ?_
   refine G.re 6 (by8 (tA i)) (congrArg some hA) ?_
   refine AQ.u ?_
   refine AQ.g ?_
   refine G.re 7 (by8 (tB i)) (congrArg some hB) ?_
   refine AQ.u ?_
   refine yl
  dsimp only[cA,cN]
  refine zn (zD (zr ?_))
  refine zb ?_
  refine vO (O.xor_ rfl rfl rfl (u0H _)) ?_
  refine zc (zJ (zn (zD (zD (zr ?_)))))
  refine zc (zJ (zn (xo ?_)))
  refine zi [(0,_),(1,_),(4,_),(6,_),(7,_),(21,_)] (fun nn E H=> ∃(k:Nat),(k≤4)∧nn=4-k∧E= [(8,by8 (tC i k)),(9,.val (.int .i64 ((k+1:Nat):Int)))]∧H= [.blk B3 183 512 (arB 512 (tT i)),.blk B2 181 256 PB,.blk B1 183 512 (arB 512 (tT 0))]) _ (⟨0,by omega,rfl,rfl,rfl⟩) ?_
  rintro nn E H ⟨k,hk,rfl,rfl,rfl⟩
  dsimp only[cA,cN]
  refine zD (zD (zr ?_))
  refine zb ?_
  refine vO wI (zJ (zn ?_))
  refine yt (fun h4=> ?_) (fun h4=> ?_)<;>(try simp only[vT]at h4)
  ·refine y6 (zn (zD (xo (zr ?_))))
   refine zb ?_
   refine zb ?_
   refine zb ?_
   refine vO (xM rfl Tryz.func196 rfl rfl rfl (s0Y _ (k+1) (by omega))) ?_
   refine vE ?_
   refine zc (zJ (xE (zn (zr ?_))))
   refine zb ?_
   refine zB ?_
   refine zc (zJ ?_)
   refine zu _ _ _ (by omega) (⟨k+1,by omega,rfl,rfl,rfl⟩)
  obtain rfl:k=4:=by omega
  refine wj ?_
  refine x8 ?_
  refine wd ?_
  refine xD (zn (zr ?_))
  refine zb ?_
  refine zb ?_
  refine zb ?_
  refine zb ?_
  refine zq ?_
  refine xV ?_
  refine yO 0 rfl rfl rfl rfl rfl rfl (by rfl) (by rfl) (by exact Nat.ble_eq_true_of_le (by rw[a0b];omega)) (by exact a0P (k:=(tA i).toNat) (by omega) _ (by omega)) ?_
  refine zq ?_
  refine xV ?_
  refine yO 0 rfl rfl rfl rfl rfl rfl (by rfl) (by rfl) (by exact Nat.ble_eq_true_of_le (by rw[a0b];omega)) (by exact a0P (k:=256+(tC i 4).toNat) (by omega) _ (by omega)) (zJ (xE (zn (zr ?_))))
  refine zB ?_
  refine zb (zJ ?_)
  have e4:arB 512 (fun q=>if q=256+(tC i 4).toNat then tA i else if q=(tA i).toNat then tC i 4 else tT i q)=arB 512 (tT (i+1)):=a0c fun q hq=>s0M (by omega) q hq
  rw[e4]
  refine zu _ _ _ (by omega) (⟨i+1,by omega,rfl,rfl,rfl⟩)
 obtain rfl:i=256:=by omega
 have e5:arB 512 (tT 256)=arB 512 TB:=a0c fun q _=>u0S q
 rw[e5]
 refine wj ?_
 refine x8 ?_
 refine wd ?_
 refine xD (zn (zD (zr ?_)))
 refine xF ?_
 refine yg 2 (zJ (zn (xj ?_)))
 refine AQ.retCell (ys:=arB 512 TB) rfl rfl mM (List.take_of_length_le (Nat.le_of_eq (a0b _ _))) (a0b _ _) nS ⟨rfl,rfl⟩
theorem v0c: ∀i,i<255→m0F (pw i) 3=pw (i+1):=by decide +kernel
theorem x0I: ∀i,i<255→((((tB i^^^s0W (tB i) 1)^^^s0W (tB i) 2)^^^s0W (tB i) 3)^^^s0W (tB i) 4)^^^99=sb (tA i):=by decide +kernel
def rT (i q:Nat):UInt8:=if q=0 then 99 else if lg (UInt8.ofNat q)<i then sb (UInt8.ofNat q)else 0
def RB (q:Nat):UInt8:=sb (UInt8.ofNat q)
theorem w0q {i:Nat}(hi:i<255):(tA i).toNat≠0:=fun h=>by
 have h1:tA i=tA 255:=by rw[show tA 255=0 from rfl];exact UInt8.toNat_inj.1 h
 have h2:=(n0K i (by omega)).1
 rw[h1,(n0K 255 (by omega)).1]at h2
 omega
theorem t0n {i:Nat}(hi:i<255)(q:Nat)(hq:q<256):(if q=(tA i).toNat then sb (tA i)else rT i q)=rT (i+1) q:=by
 have hne:=w0q hi
 have h1:=(n0K i (by omega)).1
 unfold rT
 by_cases e:q=(tA i).toNat
 ·have:UInt8.ofNat q=tA i:=(d0a hq).2 e
  rw[if_pos e,if_neg (by omega),this,h1,if_pos (by omega)]
 rw[if_neg e]
 by_cases h0:q=0
 ·rw[if_pos h0,if_pos h0]
 have:lg (UInt8.ofNat q)≠i:=fun hh=>e ((d0a hq).1 ((l0R (by omega)).1 hh))
 rw[if_neg h0,if_neg h0]
 by_cases hl:lg (UInt8.ofNat q)<i
 ·rw[if_pos hl,if_pos (by omega)]
 rw[if_neg hl,if_neg (by omega)]
theorem v0b (q:Nat)(hq:q<256):rT 255 q=RB q:=by
 unfold rT RB
 by_cases h0:q=0
 ·rw[if_pos h0,h0];rfl
 rw[if_neg h0,if_pos]
 have h1:=t0M (UInt8.ofNat q)
 have h2:lg (UInt8.ofNat q)≠255:=fun hh=>by
  have:=(d0a hq).1 ((l0R (by omega)).1 hh)
  exact h0 (this.trans rfl)
 omega
theorem t0m (q:Nat):(if q=0 then 99 else 0)=rT 0 q:=by unfold rT;simp
theorem l0p:Sp Tryz.prog 199 [] [] (Is (.agg (arB 256 RB))):=by
 refine yX Tryz.func199 _ Tryz.ntmps199 (fun w0 R0=> ?_)
 refine zD (zr ?_)
 refine wz ?_
 intro B1
 refine zJ (zn (zD (zr ?_)))
 refine wz ?_
 intro B2
 refine zJ (zn (zD (zr ?_)))
 refine zc (zJ (zn (zD (zD (zr ?_)))))
 refine zb (zJ (zn (xo ?_)))
 have e0:arB 255 (fun _=>0)=arB 255 (fun q=>if q<0 then pw q else 0):=a0c fun q _=>(if_neg (by omega)).symm
 rw[e0]
 refine zi [(0,_),(1,_)] (fun nn E H=> ∃(i:Nat),(i≤255)∧nn=255-i∧E= [(2,by8 (pw i)),(7,.val (.int .i64 (i:Int)))]∧H= [.blk B2 234 255 (arB 255 (fun q=>if q<i then pw q else 0)),.blk B1 181 256 (arB 256 fun _=>0)]) _ (⟨0,by omega,rfl,rfl,rfl⟩) ?_
 rintro nn E H ⟨i,hi,rfl,rfl,rfl⟩
 dsimp only[cA,cN]
 refine zD (zr ?_)
 refine zT (zJ (zn (zD ?_)))
 refine yt (fun h=> ?_) (fun h=> ?_)<;>(try simp only[vT]at h)
 ·refine y6 (zn (zD (xo (zD (zr ?_)))))
  refine zb ?_
  refine zc (zJ (zn (zD (zr ?_))))
  refine zb ?_
  refine zb ?_
  refine xV ?_
  refine yO 0 rfl rfl rfl rfl rfl rfl (by rfl) (by rfl) (by exact Nat.ble_eq_true_of_le (by rw[a0b];omega)) (by exact a0P (k:=i) (by omega) _ (by omega)) (zJ (zn (zr ?_)))
  refine zb ?_
  refine vO (xM rfl Tryz.func209 rfl rfl rfl (o0V _ 3)) ?_
  refine zc (zJ (xE (zn (zr ?_))))
  refine zB ?_
  refine zb (zJ ?_)
  have e1:arB 255 (fun q=>if q=i then pw i else if q<i then pw q else 0)=arB 255 (fun q=>if q<i+1 then pw q else 0):=a0c fun q _=>by
   rcases Nat.lt_trichotomy q i with h1|rfl|h1
   ·rw[if_neg (by omega),if_pos h1,if_pos (by omega)]
   ·rw[if_pos rfl,if_pos (by omega)]
   rw[if_neg (by omega),if_neg (by omega),if_neg (by omega)]
  rw[v0c i (by omega),e1]
  refine zu _ _ _ (by omega) (⟨i+1,by omega,rfl,rfl,rfl⟩)
 obtain rfl:i=255:=by omega
 obtain⟨PB,hPB⟩: ∃PB,PB=arB 255 (fun q=>if q<255 then pw q else 0):=⟨_,rfl⟩
 have hpg: ∀k,k<255→PB[k]? =some (by8 (pw k)):=fun k hk=>by rw[hPB,a0o (k:=k) (by omega) rfl,if_pos hk]
 rw[←hPB]
 refine wj ?_
 refine x8 ?_
 refine wd ?_
 refine xD (zn (zD (zr ?_)))
 refine wz ?_
 intro B3
 refine zJ (zn (zD (zr ?_)))
 refine xV ?_
 refine yO 0 rfl rfl rfl rfl rfl rfl (by rfl) (by rfl) (by exact Nat.ble_eq_true_of_le (by rw[a0b];omega)) (by exact a0P (k:=0) (by omega) 99 (by omega)) (zJ (zn (zD (zD (zr ?_)))))
 refine zb (zJ (zn (xo ?_)))
 have e2:arB 256 (fun q=>if q=0 then 99 else 0)=arB 256 (rT 0):=a0c fun q _=>t0m q
 rw[e2]
 refine zi [(0,_),(1,_),(4,_)] (fun nn E H=> ∃(i:Nat),(i≤255)∧nn=255-i∧E= [(17,.val (.int .i64 (i:Int)))]∧H= [.blk B3 181 256 (arB 256 (rT i)),.blk B2 234 255 PB,.blk B1 181 256 (arB 256 fun _=>0)]) _ (⟨0,by omega,rfl,rfl,rfl⟩) ?_
 rintro nn E H ⟨i,hi2,rfl,rfl,rfl⟩
 dsimp only[cA,cN]
 refine zD (zr ?_)
 refine zT (zJ (zn (zD ?_)))
 refine yt (fun h2=> ?_) (fun h2=> ?_)<;>(try simp only[vT]at h2)
 ·have hAl:=(tA i).toNat_lt
  have hg1:PB[0+(i:Int).toNat*1]? =some (by8 (tA i)):=by
   rw[show 0+(i:Int).toNat*1=i by omega,hpg i (by omega),tA,if_pos (by omega)]
  have hg2:PB[0+((255-(i:Int))%255).toNat*1]? =some (by8 (tB i)):=by
   rw[show 0+((255-(i:Int))%255).toNat*1=(255-i)%255 by omega,hpg _ (by omega),tB,if_pos (by omega)]
  refine y6 (zn (zD (xo (zD (zr ?_)))))
  refine zb ?_
  refine zc (zJ (zn (zD (zr ?_))))
  refine zb ?_
  refine yN ?_
  refine wn ?_
  refine xV ?_
  refine vO (O.load rfl rfl mM (by assumption)) ?_
  refine zc (zJ (zn ?_))
  refine yA 18 ?_
  simp only[cT,cZ,cD,cO]
  refine zH ?_
  refine xp ?_
  refine vP (O.load rfl rfl mM (by assumption)) ?_
  refine zH ?_
  refine zH ?_
  refine vP (xM rfl Tryz.func210 rfl rfl rfl (l0t _ 1 (by omega))) ?_
  refine wq ?_
  refine zH ?_
  refine vP (xM rfl Tryz.func210 rfl rfl rfl (l0t _ 2 (by omega))) ?_
  refine wq ?_
  refine zH ?_
  refine vP (xM rfl Tryz.func210 rfl rfl rfl (l0t _ 3 (by omega))) ?_
  refine wq ?_
  refine zH ?_
  refine vP (xM rfl Tryz.func210 rfl rfl rfl (l0t _ 4 (by omega))) ?_
  refine wq ?_
  refine vP (O.xor_ rfl rfl rfl (u0H _)) ?_
  refine xp ?_
  refine vb ?_
  simp only[a0h,cN,cA,cP]
  refine yO 0 rfl rfl rfl rfl rfl rfl (by rfl) (by rfl) (by exact Nat.ble_eq_true_of_le (by rw[a0b];omega)) (by exact a0P (k:=(tA i).toNat) (by omega) _ (by omega)) (zJ (xE (zn (zr ?_))))
  refine zB ?_
  refine zb (zJ ?_)
  rw[x0I i (by omega)]
  have e4:arB 256 (fun q=>if q=(tA i).toNat then sb (tA i)else rT i q)=arB 256 (rT (i+1)):=a0c fun q hq=>t0n (by omega) q hq
  rw[e4]
  refine zu _ _ _ (by omega) (⟨i+1,by omega,rfl,rfl,rfl⟩)
 obtain rfl:i=255:=by omega
 have e5:arB 256 (rT 255)=arB 256 RB:=a0c fun q hq=>v0b q hq
 rw[e5]
 refine wj ?_
 refine x8 ?_
 refine wd ?_
 refine xD (zn (zD (zr ?_)))
 refine xF ?_
 refine yg 2 (zJ (zn (xj ?_)))
 refine AQ.retCell (ys:=arB 256 RB) rfl rfl mM (List.take_of_length_le (Nat.le_of_eq (a0b _ _))) (a0b _ _) nS ⟨rfl,rfl⟩
def rcF:Nat→UInt8
 |0=>1
 |k+1=>dbl (rcF k)
def wS (key:Nat→UInt8)(q:Nat):UInt8:=
 if h:q<16 then key q else
  (if q%16<4 then sb (wS key (q-q%16-4+(q%16+1)%4))^^^ (if q%16=0 then rcF (q/16-1)else 0)else wS key (q-4))^^^wS key (q-16)
termination_by q
decreasing_by all_goals omega
theorem n0C {key:Nat→UInt8}{q:Nat}(h:q<16):wS key q=key q:=by rw[wS,dif_pos h]
theorem u0N {key:Nat→UInt8}{q:Nat}(h: ¬q<16):wS key q=(if q%16<4 then sb (wS key (q-q%16-4+(q%16+1)%4))^^^ (if q%16=0 then rcF (q/16-1)else 0)else wS key (q-4))^^^wS key (q-16):=by
 rw[wS,dif_neg h]
def zS (key:Nat→UInt8)(i m:Nat):UInt8:=if m<4 then sb (wS key (16*i-4+(m+1)%4))^^^ (if m=0 then rcF (i-1)else 0)else wS key (16*i+m-4)
theorem w0n (key:Nat→UInt8){i m:Nat}(hi:1≤i)(hm:m<16):wS key (16*i+m)=zS key i m^^^wS key (16*(i-1)+m):=by
 rw[wS,dif_neg (by omega)]
 have h1:(16*i+m)%16=m:=by omega
 have h2:(16*i+m)/16=i:=by omega
 rw[h1,h2,show 16*i+m-16=16*(i-1)+m by omega,show 16*i+m-m-4=16*i-4 by omega,zS]
def cut (key:Nat→UInt8)(n q:Nat):UInt8:=if q<n then wS key q else 0
theorem p0z {key:Nat→UInt8}{n k j:Nat}(h:k<n)(h2:n≤176)(hj:j=k):(arB 176 (cut key n))[j]? =some (by8 (wS key k)):=by
 rw[a0o (k:=k) (by omega) hj,cut,if_pos h]
def tz (key:Nat→UInt8)(i k j:Nat):UInt8:=zS key i (k+(j+4-k%4)%4)
theorem w0o (key:Nat→UInt8)(i k:Nat):tz key i k (k%4)=zS key i k:=by
 unfold tz;congr 1;omega
theorem u0Q {key:Nat→UInt8}{i k j:Nat}(hj:j=k%4):(arB 4 (tz key i k))[j]? =some (by8 (zS key i k)):=by
 rw[a0o (k:=k%4) (by omega) hj,w0o]
theorem s0J {key:Nat→UInt8}{i k:Nat}(q:Nat)(hq:q<4):(if q=k%4 then wS key (16*i+k)else tz key i k q)=tz key i (k+1) q:=by
 unfold tz
 by_cases h:q=k%4
 ·rw[if_pos h,zS,if_neg (by omega)]
  congr 1;omega
 rw[if_neg h];congr 1;omega
theorem s0B (a:UInt8):a^^^0=a:=UInt8.xor_zero
theorem u0f (key:Nat→UInt8):a0e (arB 176 fun _=>0) 0 ((arB 16 key).take 16)=arB 176 (cut key 16):=by
 rw[List.take_of_length_le (Nat.le_of_eq (a0b _ _)),d0P (by omega)]
 refine a0c fun q hq=> ?_
 unfold cut
 by_cases h:q<16
 ·rw[if_pos (by omega),if_pos h,n0C h];rfl
 rw[if_neg (by omega),if_neg h]
theorem q0p (key:Nat→UInt8)(xs:List AV)(hx:l0a xs 0 sb):Sp Tryz.prog 178 [.rp xs 0,.ro false 16 (arB 16 key)] [] (Is (.agg (arB 176 (wS key)))):=by
 refine yX Tryz.func178 _ Tryz.ntmps178 (fun w0 R0=> ?_)
 refine zD (zr ?_)
 refine wz ?_
 intro B1
 refine zJ (zn (zD (zr ?_)))
 refine xV ?_
 refine vO (O.sliceArrK (p:=0) rfl rfl rfl rfl (by rfl) (by rfl) ⟨by omega,by omega⟩ (by omega)) ?_
 refine zb ?_
 refine AO.copyIn (i:=0) rfl rfl rfl rfl (by exact a0b _ _) (by exact d0z _ _) rfl (by rw[a0b];omega) (by exact u0f key) rfl rfl (fun q h=>by cases h;exact lB rfl) ?_
 rintro _ rfl
 dsimp only[List.set]
 refine zJ (zn (zD (zr ?_)))
 refine zc (zJ (zn (zD (zD (zr ?_)))))
 refine zc (zJ (zn (xo ?_)))
 refine zi [(0,_),(4,_)] (fun nn E H=> ∃(i:Nat),(1≤i∧i≤11)∧nn=11-i∧E= [(5,by8 (rcF (i-1))),(6,.val (.int .i64 (i:Int)))]∧H= [.blk B1 186 176 (arB 176 (cut key (16*i)))]) _ (⟨1,by omega,rfl,rfl,rfl⟩) ?_
 rintro nn E H ⟨i,hi,rfl,rfl,rfl⟩
 dsimp only[cA,cN]
 refine zD (zD (zr ?_))
 refine zb ?_
 refine zT (zJ (zn ?_))
 refine yt (fun h=> ?_) (fun h=> ?_)<;>(try simp only[vT]at h)
 ·have hi':i<11:=by omega
  have hlast: ∀j:Nat,j<4→(arB 176 (cut key (16*i)))[0+((i:Int)-1).toNat*16+12*1+j*1]? =some (by8 (wS key (16*i-4+j))):=fun j hj=>p0z (by omega) (by omega) (by omega)
  have hl0:=hlast 0 (by omega)
  have hl1:=hlast 1 (by omega)
  have hl2:=hlast 2 (by omega)
  have hl3:=hlast 3 (by omega)
  refine y6 (zn (zD (xo (zD (zr ?_)))))
  refine zb ?_
  refine yN ?_
  refine xV ?_
  refine vO (O.sliceArrK (p:=12) rfl rfl rfl rfl (by rfl) (by rfl) ⟨by omega,by omega⟩ (by omega)) ?_
  refine zc (zJ (zn (zD ?_)))
  refine yA 36 ?_
  simp only[cT,cZ,cD,cO]
  refine zH ?_
  refine zH ?_
  refine wZ ?_
  refine vP (O.load rfl rfl (by repeat(exact List.Mem.head _)) (by exact hl1)) ?_
  refine vP (O.nilCheckR rfl rfl) ?_
  refine vP (O.fieldAddrR rfl rfl) ?_
  refine vP (O.idxLR rfl rfl rfl (by exact n0I _)) ?_
  refine vP (O.loadR rfl rfl (by exact f0i hx _)) ?_
  refine zH ?_
  refine wq ?_
  refine zH ?_
  refine zH ?_
  refine wZ ?_
  refine vP (O.load rfl rfl (by repeat(exact List.Mem.head _)) (by exact hl2)) ?_
  refine vP (O.nilCheckR rfl rfl) ?_
  refine vP (O.fieldAddrR rfl rfl) ?_
  refine vP (O.idxLR rfl rfl rfl (by exact n0I _)) ?_
  refine vP (O.loadR rfl rfl (by exact f0i hx _)) ?_
  refine zH ?_
  refine zH ?_
  refine wZ ?_
  refine vP (O.load rfl rfl (by repeat(exact List.Mem.head _)) (by exact hl3)) ?_
  refine vP (O.nilCheckR rfl rfl) ?_
  refine vP (O.fieldAddrR rfl rfl) ?_
  refine vP (O.idxLR rfl rfl rfl (by exact n0I _)) ?_
  refine vP (O.loadR rfl rfl (by exact f0i hx _)) ?_
  refine zH ?_
  refine zH ?_
  refine wZ ?_
  refine vP (O.load rfl rfl (by repeat(exact List.Mem.head _)) (by exact hl0)) ?_
  refine vP (O.nilCheckR rfl rfl) ?_
  refine vP (O.fieldAddrR rfl rfl) ?_
  refine vP (O.idxLR rfl rfl rfl (by exact n0I _)) ?_
  refine vP (O.loadR rfl rfl (by exact f0i hx _)) ?_
  refine x0 ?_
  refine yS ?_
  refine vb ?_
  simp only[a0h,cN,cA,cP]
  rintro _ _ ⟨B2,rfl,rfl⟩
  simp only[cA,cN]
  refine xK 0 (zJ (zn (zD (zr ?_))))
  refine zb ?_
  refine vO (xM rfl Tryz.func195 rfl rfl rfl (l0Z _)) ?_
  refine zc (zJ (zn (zD (zr ?_))))
  refine zb (zJ (zn (xo ?_)))
  have hz: [AV.val (.int .u8 ((sb (wS key (16*i-4+1))^^^rcF (i-1)).toNat:Int)),by8 (sb (wS key (16*i-4+2))),by8 (sb (wS key (16*i-4+3))),by8 (sb (wS key (16*i-4)))]=arB 4 (tz key i 0):=by
   show _= [by8 (zS key i 0),by8 (zS key i 1),by8 (zS key i 2),by8 (zS key i 3)]
   have z0:zS key i 0=sb (wS key (16*i-4+1))^^^rcF (i-1):=rfl
   have z1:zS key i 1=sb (wS key (16*i-4+2)):=s0B _
   have z2:zS key i 2=sb (wS key (16*i-4+3)):=s0B _
   have z3:zS key i 3=sb (wS key (16*i-4)):=s0B _
   rw[z0,z1,z2,z3]
  rw[hz]
  have hrc:dbl (rcF (i-1))=rcF (i+1-1):=by
   rw[show i+1-1=(i-1)+1 by omega,rcF]
  rw[hrc]
  refine zi [(0,_),(4,_),(5,_),(6,_),(8,_)] (fun nn E H=> ∃(k:Nat),(k≤16)∧nn=16-k∧E= [(59,.val (.int .i64 (k:Int)))]∧H= [.blk B2 215 4 (arB 4 (tz key i k)),.blk B1 186 176 (arB 176 (cut key (16*i+k)))]) _ (⟨0,by omega,rfl,rfl,rfl⟩) ?_
  rintro nn E H ⟨k,hk,rfl,rfl,rfl⟩
  dsimp only[cA,cN]
  refine zD (zr ?_)
  refine zT (zJ (zn (zD ?_)))
  refine yt (fun h2=> ?_) (fun h2=> ?_)<;>(try simp only[vT]at h2)
  ·have hk':k<16:=by omega
   refine y6 (zn (zD (xo (zD (zr ?_)))))
   refine zb ?_
   refine zc (zJ (zn (zD ?_)))
   refine yA 12 ?_
   simp only[cT,cZ,cD,cO]
   refine zH ?_
   refine vP wh ?_
   refine xp ?_
   refine vP (O.load rfl rfl (by repeat(exact List.Mem.head _)) (by exact u0Q (k:=k) (by omega))) ?_
   refine zH ?_
   refine xX ?_
   refine zH ?_
   refine xp ?_
   refine xp ?_
   refine vP (O.load rfl rfl mM (by exact p0z (k:=16*(i-1)+k) (by omega) (by omega) (by omega))) ?_
   refine wq ?_
   refine xp ?_
   refine vb ?_
   simp only[a0h,cN,cA,cP]
   refine yO 0 rfl rfl rfl rfl rfl rfl (by rfl) (by rfl) (by exact Nat.ble_eq_true_of_le (by rw[a0b];omega)) (by exact a0P (k:=k%4) (by omega) _ (by omega)) (zJ (zn ?_))
   refine yA 8 ?_
   simp only[cT,cZ,cD,cO]
   refine zH ?_
   refine zH ?_
   refine zH ?_
   refine vP wh ?_
   refine xp ?_
   refine vP (O.load rfl rfl (by repeat(exact List.Mem.head _)) (by exact a0o (k:=k%4) (by omega) (by omega))) ?_
   refine xp ?_
   refine xp ?_
   refine vb ?_
   simp only[a0h,cN,cA,cP]
   refine yO 1 rfl rfl rfl rfl rfl rfl (by rfl) (by rfl) (by exact Nat.ble_eq_true_of_le (by rw[a0b];omega)) (by exact a0P (k:=16*i+k) (by omega) _ (by omega)) (zJ (xE (zn (zr ?_))))
   refine zB ?_
   refine zb (zJ ?_)
   have hw:=w0n key hi.1 hk'
   have e1:arB 4 (fun q=>if q=k%4 then zS key i k^^^wS key (16*(i-1)+k)else tz key i k q)=arB 4 (tz key i (k+1)):=a0c fun q hq=>by
    rw[←hw];exact s0J q hq
   have e2:arB 176 (fun q=>if q=16*i+k then(if True then zS key i k^^^wS key (16*(i-1)+k)else tz key i k (k%4))else cut key (16*i+k) q)=arB 176 (cut key (16*i+(k+1))):=a0c fun q hq=>by
    rw[if_pos trivial,←hw]
    unfold cut
    rcases Nat.lt_trichotomy q (16*i+k)with h1|h1|h1
    ·rw[if_neg (by omega),if_pos h1,if_pos (by omega)]
    ·rw[if_pos h1,if_pos (by omega),h1]
    rw[if_neg (by omega),if_neg (by omega),if_neg (by omega)]
   rw[e1,e2]
   refine zu _ _ _ (by omega) (⟨k+1,by omega,rfl,rfl,rfl⟩)
  obtain rfl:k=16:=by omega
  refine wj ?_
  refine x8 ?_
  refine wd ?_
  refine xD (xE (zn (zr ?_)))
  refine zb ?_
  refine zB ?_
  refine zc (zJ ?_)
  refine zL _ _ _ (by omega) (⟨i+1,by omega,rfl,rfl,rfl⟩)
 obtain rfl:i=11:=by omega
 have e:arB 176 (cut key (16*11))=arB 176 (wS key):=a0c fun q hq=>if_pos hq
 rw[e]
 refine wj ?_
 refine x8 ?_
 refine wd ?_
 refine xD (zn (zD (zr ?_)))
 refine xF ?_
 refine yg 0 (zJ (zn (xj ?_)))
 refine AQ.retCell (ys:=arB 176 (wS key)) rfl rfl (by repeat(exact List.Mem.head _)) (List.take_of_length_le (Nat.le_of_eq (a0b _ _))) (a0b _ _) nS ⟨rfl,rfl⟩
def tq (key:Nat→UInt8)(i j:Nat):UInt8:=if i%4=0 then sb (wS key (4*i-4+(j+1)%4))^^^ (if j=0 then rcF (i/4-1)else 0)else wS key (4*i-4+j)
theorem u0L (key:Nat→UInt8){i j:Nat}(hi:4≤i)(hj:j<4):wS key (4*i-16+j)^^^tq key i j=wS key (4*i+j):=by
 rw[UInt8.xor_comm,u0N (q:=4*i+j) (by omega),tq]
 by_cases h:i%4=0
 ·have h1:(4*i+j)%16=j:=by omega
  rw[if_pos h,h1,if_pos hj,show 4*i+j-j-4=4*i-4 by omega,show(4*i+j)/16=i/4 by omega,show 4*i+j-16=4*i-16+j by omega]
 rw[if_neg h,if_neg (by omega),show 4*i+j-4=4*i-4+j by omega,show 4*i+j-16=4*i-16+j by omega]
theorem u0j:l0a (arB 256 RB) 0 sb:=fun v=>by
 have:=v.toNat_lt
 rw[a0o (k:=v.toNat) (by omega) (by omega),RB,UInt8.ofNat_toNat]
theorem w0E (a:UInt8):m0F a 2=dbl a:=d0j (p:=fun a=>m0F a 2=dbl a) (by decide +kernel) a
theorem c0w {n:Nat}{f:Nat→UInt8}{v:UInt8}(h:v=f n):arB n f++[by8 v]=arB (n+1) f:=by
 subst h;rw[d0i,d0i,List.range_succ,List.map_append];rfl
theorem i0P (key:Nat→UInt8):Sp Tryz.prog 200 [.ro false 16 (arB 16 key),.agg (arB 256 RB)] [] (Is (.ro false 176 (arB 176 (wS key)))):=by
 refine yX Tryz.func200 _ Tryz.ntmps200 (fun w0 R0=> ?_)
 refine zD (zr ?_)
 refine yo ?_
 intro B1
 refine zc (zJ (zn (zD (zr ?_))))
 refine zb ?_
 refine vR (O.appendNil rfl (by rfl) (by rfl) rfl rfl (by exact SrcA.ro TyD.ax (by rfl) (lB rfl)) (by rfl) (by(unfold maxLen;omega)) (by omega)) ?_
 intro V2 hV2
 refine zc (zJ (zn (zD (zr ?_))))
 refine zc (zJ (zn (zD (zD (zr ?_)))))
 refine zc (zJ (zn (xo ?_)))
 have e0:arB 16 key=arB (4*4) (wS key):=a0c fun q hq=>(n0C hq).symm
 rw[e0]
 refine zi [(3,_)] (fun nn E H=> ∃(i:Nat) (V:Value),(4≤i∧i≤44)∧(V.oneCell'=true)∧nn=44-i∧E= [(5,.val V),(6,by8 (rcF ((i-1)/4))),(7,.val (.int .i64 (i:Int)))]∧H= [.row V 5 1 (4*i) (arB (4*i) (wS key)),.blk B1 181 (arB 256 RB).length (arB 256 RB)]) _ (⟨4,V2,by omega,hV2,rfl,rfl,rfl⟩) ?_
 rintro nn E H ⟨i,V,hi,hV,rfl,rfl,rfl⟩
 dsimp only[cA,cN]
 refine zD (zD (zr ?_))
 refine zb ?_
 refine zT (zJ (zn ?_))
 refine yt (fun h=> ?_) (fun h=> ?_)<;>(try simp only[vT]at h)
 ·have hi':i<44:=by omega
  have hld: ∀d:Nat,1≤d→d≤4→(arB (4*i) (wS key))[0+(4*(i:Int)-(d:Int)).toNat*1]? =some (by8 (wS key (4*i-d))):=fun d h1 h2=>a0o (by omega) (by omega)
  have hl4:=hld 4 (by omega) (by omega)
  have hl3:=hld 3 (by omega) (by omega)
  have hl2:=hld 2 (by omega) (by omega)
  have hl1:=hld 1 (by omega) (by omega)
  refine AW.g ?_
  refine G.openRow 0 rfl (by omega) (fun b' cap hc1 hc2 hxs hVe=> ?_)
  refine AW.u ?_
  subst hVe
  dsimp only[List.set]
  refine y6 (zn (zD (xo (zD ?_))))
  refine yA 26 ?_
  simp only[cT,cZ,cD,cO]
  refine zH ?_
  refine zH ?_
  refine xv ?_
  refine xX ?_
  refine wZ ?_
  refine vP (O.load rfl rfl (by repeat(exact List.Mem.head _)) (by exact hl4)) ?_
  refine zH ?_
  refine zH ?_
  refine xv ?_
  refine xX ?_
  refine wZ ?_
  refine vP (O.load rfl rfl (by repeat(exact List.Mem.head _)) (by exact hl3)) ?_
  refine zH ?_
  refine zH ?_
  refine xv ?_
  refine xX ?_
  refine wZ ?_
  refine vP (O.load rfl rfl (by repeat(exact List.Mem.head _)) (by exact hl2)) ?_
  refine zH ?_
  refine zH ?_
  refine xv ?_
  refine xX ?_
  refine wZ ?_
  refine vP (O.load rfl rfl (by repeat(exact List.Mem.head _)) (by exact hl1)) ?_
  refine x0 ?_
  refine yS ?_
  refine vb ?_
  simp only[a0h,cN,cA,cP]
  rintro _ _ ⟨B3,rfl,rfl⟩
  simp only[cA,cN]
  refine xK 0 (zJ (zn (zD (zD (zr ?_)))))
  refine zb ?_
  refine wn ?_
  refine z8 (zJ (zn ?_))
  refine xR True [(3,_),(5,_),(7,_),(8,_)] [(6,by8 (rcF (i/4)))] [.blk B3 215 4 (arB 4 (tq key i)),.blk b' 5 (cap*1) (arB (4*i) (wS key)),.blk B1 181 (arB 256 RB).length (arB 256 RB)] (fun h43=> ?_) (fun h43=> ?_) (fun hj=> ?_)<;>try(try simp only[vT]at h43)
  ·have h4:i%4=0:=by omega
   refine zD ?_
   refine yA 19 ?_
   simp only[cT,cZ,cD,cO]
   refine xp ?_
   refine yU ?_
   refine vP (O.idxL rfl rfl rfl (by exact n0I _)) ?_
   refine vP wN ?_
   refine zH ?_
   refine wq ?_
   refine xp ?_
   refine yU ?_
   refine vP (O.idxL rfl rfl rfl (by exact n0I _)) ?_
   refine vP wN ?_
   refine xp ?_
   refine yU ?_
   refine vP (O.idxL rfl rfl rfl (by exact n0I _)) ?_
   refine vP wN ?_
   refine xp ?_
   refine yU ?_
   refine vP (O.idxL rfl rfl rfl (by exact n0I _)) ?_
   refine vP wN ?_
   refine x0 ?_
   refine vb ?_
   simp only[a0h,cN,cA,cP]
   refine xK 0 (zJ (zn (zr ?_)))
   refine zb ?_
   refine vO (xM rfl Tryz.func209 rfl rfl rfl (o0V _ 2)) ?_
   refine zc (zJ ?_)
   have ht: [AV.val (.int .u8 ((sb (wS key (4*i-3))^^^rcF ((i-1)/4)).toNat:Int)),by8 (sb (wS key (4*i-2))),by8 (sb (wS key (4*i-1))),by8 (sb (wS key (4*i-4)))]=arB 4 (tq key i):=by
    show _= [by8 (tq key i 0),by8 (tq key i 1),by8 (tq key i 2),by8 (tq key i 3)]
    have t0:tq key i 0=sb (wS key (4*i-3))^^^rcF ((i-1)/4):=by
     rw[tq,if_pos h4,if_pos rfl,show 4*i-4+(0+1)%4=4*i-3 by omega,show i/4-1=(i-1)/4 by omega]
    have t1:tq key i 1=sb (wS key (4*i-2)):=by
     rw[tq,if_pos h4,if_neg (by omega),s0B,show 4*i-4+(1+1)%4=4*i-2 by omega]
    have t2:tq key i 2=sb (wS key (4*i-1)):=by
     rw[tq,if_pos h4,if_neg (by omega),s0B,show 4*i-4+(2+1)%4=4*i-1 by omega]
    have t3:tq key i 3=sb (wS key (4*i-4)):=by
     rw[tq,if_pos h4,if_neg (by omega),s0B,show 4*i-4+(3+1)%4=4*i-4 by omega]
    rw[t0,t1,t2,t3]
   rw[ht]
   have hr:m0F (rcF ((i-1)/4)) 2=rcF (i/4):=by
    rw[w0E,show i/4=(i-1)/4+1 by omega,rcF]
   rw[hr]
   refine vc
  ·have h4: ¬i%4=0:=by omega
   refine y6 ?_
   have ht: [by8 (wS key (4*i-4)),by8 (wS key (4*i-3)),by8 (wS key (4*i-2)),by8 (wS key (4*i-1))]=arB 4 (tq key i):=by
    show _= [by8 (tq key i 0),by8 (tq key i 1),by8 (tq key i 2),by8 (tq key i 3)]
    unfold tq
    rw[if_neg h4,if_neg h4,if_neg h4,if_neg h4,show 4*i-4+0=4*i-4 by omega,show 4*i-4+1=4*i-3 by omega,show 4*i-4+2=4*i-2 by omega,show 4*i-4+3=4*i-1 by omega]
   rw[ht]
   have hr:rcF ((i-1)/4)=rcF (i/4):=by rw[show(i-1)/4=i/4 by omega]
   rw[hr]
   refine yl
  dsimp only[cA,cN]
  refine zn (zD (zr ?_))
  refine zb (zJ (zn (xo ?_)))
  refine AW.g ?_
  refine G.closeRow (b:=b') 1 rfl hxs rfl hc1 hc2 ?_
  refine AW.u ?_
  dsimp only[List.set]
  refine xQ [(3,_),(6,_),(7,_),(8,_)] (fun nn E H=> ∃(j:Nat) (W:Value),(j≤4)∧(W.oneCell'=true)∧nn=4-j∧E= [(5,.val W),(65,.val (.int .i64 (j:Int)))]∧H= [.row W 5 1 (4*i+j) (arB (4*i+j) (wS key)),.blk B3 215 4 (arB 4 (tq key i)),.blk B1 181 (arB 256 RB).length (arB 256 RB)]) _ (⟨0,_,by omega,hV,rfl,rfl,rfl⟩) ?_
  rintro nn E H ⟨j,W,hj,hW,rfl,rfl,rfl⟩
  dsimp only[cA,cN]
  refine zD (zr ?_)
  refine zT (zJ (zn (zD ?_)))
  refine yt (fun h2=> ?_) (fun h2=> ?_)<;>(try simp only[vT]at h2)
  ·have hj':j<4:=by omega
   refine AW.g ?_
   refine G.openRow 0 rfl (by omega) (fun b2 cap2 hd1 hd2 hxs2 hVe2=> ?_)
   refine AW.u ?_
   subst hVe2
   dsimp only[List.set]
   refine y6 (zn (zD (xo (zD (zr ?_)))))
   refine zb ?_
   refine zc (zJ (zn ?_))
   refine yA 14 ?_
   simp only[cT,cZ,cD,cO]
   refine zH ?_
   refine zH ?_
   refine zH ?_
   refine xv ?_
   refine xX ?_
   refine zH ?_
   refine xm ?_
   refine wZ ?_
   refine vP (O.load rfl rfl (by repeat(exact List.Mem.head _)) (by exact a0o (k:=4*i-16+j) (by omega) (by omega))) ?_
   refine zH ?_
   refine xp ?_
   refine vP (O.load rfl rfl mM (by exact a0o (k:=j) (by omega) (by omega))) ?_
   refine wq ?_
   refine vP y9 ?_
   refine vb ?_
   simp only[a0h,cN,cA,cP]
   refine AO.g ?_
   refine G.closeRow (b:=b2) 0 rfl hxs2 rfl hd1 hd2 ?_
   refine AO.u ?_
   dsimp only[List.set]
   refine yq 0 ?_
   intro V4 hV4
   refine zc (zJ (xE (zn (zr ?_))))
   refine zB ?_
   refine zb (zJ ?_)
   rw[show arB (4*i+j) (wS key)++[AV.val (.int .u8 ((wS key (4*i-16+j)^^^tq key i j).toNat:Int))]=arB (4*i+j+1) (wS key)from c0w (u0L key hi.1 hj')]
   refine zu _ _ _ (by omega) (⟨j+1,V4,by omega,hV4,rfl,rfl,rfl⟩)
  obtain rfl:j=4:=by omega
  refine wj ?_
  refine x8 ?_
  refine wd ?_
  refine xD (xE (zn (zr ?_)))
  refine zb ?_
  refine zB ?_
  refine zc (zJ ?_)
  refine xG _ _ _ (by omega) (⟨i+1,W,by omega,hW,rfl,rfl,rfl⟩)
 obtain rfl:i=44:=by omega
 refine wj ?_
 refine x8 ?_
 refine wd ?_
 refine xD (zn (zD (zr ?_)))
 refine zb ?_
 refine zc (zJ (zn (xj ?_)))
 refine AQ.g ?_
 refine yf 0 [4] ?_
 refine AQ.u ?_
 try dsimp only[List.map,List.eraseIdx,cA,cN]
 refine yM
def g0q (q:Nat):UInt8:= [2,3,1,1].getD q 0
def w0L (q:Nat):UInt8:= [14,11,13,9].getD q 0
def d0U (w f:Nat→UInt8):Nat→Nat→UInt8
 |0=>fun q=>f q^^^w (0*16+q)
 |i+1=>fun q=>(if i+1<10 then f0w (shF sb 1 (d0U w f i)) g0q else shF sb 1 (d0U w f i)) q^^^w ((i+1)*16+q)
def enc (w f:Nat→UInt8):Nat→UInt8:=d0U w f 10
def x0H (ys:List AV)(o:Nat)(w:Nat→UInt8):Prop:= ∀i,i<11→(ys.drop (o+i*16)).take 16=arB 16 fun q=>w (i*16+q)
theorem m0Z (b:Nat)(f w:Nat→UInt8)(xs ys:List AV)(o oy:Nat)(hx:l0a xs o sb)(hw:x0H ys oy w):Sp Tryz.prog 197 [.rp xs o,.rp ys oy,pt b] [stB b f] (IsM (.val (.tuple #[])) (stB b (enc w f))):=by
 refine yX Tryz.func197 _ Tryz.ntmps197 (fun w0 R0=> ?_)
 refine zD (zr ?_)
 refine zb ?_
 refine zb ?_
 refine vO (O.nilCheckR rfl rfl) ?_
 refine vO (O.idxLR rfl rfl rfl ⟨(by omega),(by omega)⟩) ?_
 refine vO (O.loadRK rfl rfl (by exact hw 0 (by omega)) (by exact a0b _ _)) ?_
 refine xz 0 rfl rfl Tryz.func206 rfl rfl rfl rfl rfl rfl (k0c _ _ _) (zJ (zn (zD (zr ?_))))
 refine zc (zJ (zn (xo ?_)))
 refine zi [(0,_),(1,_),(2,_)] (fun nn E H=> ∃(j:Nat),(j≤10)∧nn=10-j∧E= [(6,.val (.int .i64 ((j+1:Nat):Int)))]∧H= [stB b (d0U w f j)]) _ (⟨0,by omega,rfl,rfl,rfl⟩) ?_
 rintro nn E H ⟨j,hj,rfl,rfl,rfl⟩
 dsimp only[cA,cN]
 refine zD (zD (zr ?_))
 refine zb ?_
 refine zT (zJ (zn ?_))
 refine yt (fun h=> ?_) (fun h=> ?_)<;>(try simp only[vT]at h)
 ·refine y6 (zn (zD (xo (zD (zr ?_)))))
  refine zb ?_
  refine zb ?_
  refine vO (O.nilCheckR rfl rfl) ?_
  refine vO (O.fieldAddrR rfl rfl) ?_
  refine xz 0 rfl rfl Tryz.func207 rfl rfl rfl rfl rfl rfl (n0W _ _ _ _ _ hx) (zJ (zn (zD (zD (zr ?_)))))
  refine zb ?_
  refine zT (zJ (zn ?_))
  refine yt (fun h23=> ?_) (fun h23=> ?_)<;>(try simp only[vT]at h23)
  ·have e:(fun q=>f0w (shF sb 1 (d0U w f j)) g0q q^^^w ((j+1)*16+q))=d0U w f (j+1):=by rw[d0U,if_pos (by omega)]
   refine zr ?_
   refine zb ?_
   refine zP ?_
   refine xz 0 rfl rfl Tryz.func208 rfl rfl rfl rfl rfl rfl (v0r _ _ g0q) (zJ (zn (zr ?_)))
   refine zb ?_
   refine zb ?_
   refine zb ?_
   refine vO (O.nilCheckR rfl rfl) ?_
   refine vO (O.idxLR rfl rfl rfl ⟨(by omega),(by omega)⟩) ?_
   refine vO (O.loadRK rfl rfl (by exact hw (j+1) (by omega)) (by exact a0b _ _)) ?_
   refine xz 0 rfl rfl Tryz.func206 rfl rfl rfl rfl rfl rfl (k0c _ _ _) (zJ (xE (zn (zr ?_))))
   refine zb ?_
   refine zB ?_
   refine zc (zJ ?_)
   rw[e]
   refine zu _ _ _ (by omega) (⟨j+1,by omega,rfl,rfl,rfl⟩)
  have e:(fun q=>shF sb 1 (d0U w f j) q^^^w ((j+1)*16+q))=d0U w f (j+1):=by rw[d0U,if_neg (by omega)]
  refine y6 (zn (zr ?_))
  refine zb ?_
  refine zb ?_
  refine zb ?_
  refine vO (O.nilCheckR rfl rfl) ?_
  refine vO (O.idxLR rfl rfl rfl ⟨(by omega),(by omega)⟩) ?_
  refine vO (O.loadRK rfl rfl (by exact hw (j+1) (by omega)) (by exact a0b _ _)) ?_
  refine xz 0 rfl rfl Tryz.func206 rfl rfl rfl rfl rfl rfl (k0c _ _ _) (zJ (xE (zn (zr ?_))))
  refine zb ?_
  refine zB ?_
  refine zc (zJ ?_)
  rw[e]
  refine zu _ _ _ (by omega) (⟨j+1,by omega,rfl,rfl,rfl⟩)
 obtain rfl:j=10:=by omega
 refine wj ?_
 refine x8 ?_
 refine wd ?_
 refine xD ?_
 refine AQ.retN (AQ.ret0 rfl ⟨_,by repeat(first|exact List.Sublist.slnil|refine List.Sublist.cons_cons _ ?_),List.Perm.refl _⟩ (⟨rfl,rfl⟩))
def g0Z (w:Nat→UInt8):List AV:=arB 512 TB++arB 176 w
theorem s0n (w:Nat→UInt8):l0a (g0Z w) 0 sb:=fun v=>by
 have h:=v0R v
 have:=v.toNat_lt
 unfold g0Z
 rw[List.getElem?_append_left (by rw[a0b];omega)];exact h
theorem v0N (w:Nat→UInt8):x0H (g0Z w) 512 w:=fun i hi=>by
 unfold g0Z
 rw[List.drop_append,List.drop_eq_nil_of_le (by rw[a0b];omega),cN,a0b,Nat.add_sub_cancel_left]
 exact h0F (by omega)
theorem r0C:g0Z (fun _=>0)=arB 688 (fun q=>if 0≤q∧q<0+512 then TB (q-0)else 0):=by
 unfold g0Z
 rw[k0W]
 refine a0c fun q hq=> ?_
 by_cases h:q<512
 ·rw[if_pos h,if_pos (by omega)];rfl
 rw[if_neg h,if_neg (by omega)]
theorem u0h (w:Nat→UInt8){j:Nat}(hj:j=512):a0e (g0Z fun _=>0) j (arB 176 w)=g0Z w:=by
 subst hj
 unfold g0Z
 rw[c0I _ _ _ (by rw[cH,a0b,a0b,a0b];omega),a0b,List.take_left' (a0b _ _),List.drop_eq_nil_of_le (by rw[cH,a0b,a0b];omega),cP]
theorem p0D (w:Nat→UInt8):(g0Z w).length=688:=by unfold g0Z;rw[cH,a0b,a0b]
instance (priority:=2000) cip83:TyB Tryz.prog 188 [(0,512),(512,176)] (.agg ⟨List.replicate 688 (.int .u8 0)⟩):=⟨Tryz.t188,Tryz.type188,by kernel_rfl,.inl ⟨_,Tryz.underlying188,rfl⟩⟩
theorem v0F:d0T ([(0,512),(512,176)][·]?) ((Value.agg ⟨List.replicate 688 (.int .u8 0)⟩).cells.toList.map AV.val) [(0,.agg (arB 512 TB))]=some (g0Z fun _=>0):=by
 have hz:((Value.agg ⟨List.replicate 688 (.int .u8 0)⟩).cells.toList.map AV.val)=arB 688 (fun _=>0):=f0O 688
 rw[hz]
 unfold d0T
 have h1:(AV.agg (arB 512 TB)).cells.length=512:=a0b _ _
 have h2:(arB 688 fun _=>0).length=688:=a0b _ _
 simp only[List.getElem?_cons_zero,h1,h2]
 rw[show(Nat.beq 512 512&&Nat.ble (0+512) 688)=true from by decide]
 simp only[cond_true,d0T]
 refine congrArg some ?_
 show a0e (arB 688 fun _=>0) 0 (arB 512 TB)=_
 rw[d0P (by omega),←r0C]
def kf (l:List UInt8):Nat→UInt8:=fun q=>l.getD q 0
theorem p0l {l:List UInt8}{n:Nat}(h:l.length=n):fnB n (kf l)=l:=by
 subst h
 apply List.ext_getElem?
 intro q
 by_cases hq:q<l.length
 ·simp[fnB,kf,hq]
 simp[fnB,hq]
theorem i0Q {l:List UInt8}{n:Nat}(h:l.length=n):roB l= .ro false n (arB n (kf l)):=by
 rw[←b0L,p0l h]
theorem j0O (key:Nat→UInt8):Sp Tryz.prog 157 [.ro false 16 (arB 16 key)] [] (b0j pt 188 688 (g0Z (wS key))):=by
 refine yX Tryz.func157 _ Tryz.ntmps157 (fun w0 R0=> ?_)
 refine zD (zr ?_)
 refine zc (zJ (zn (zD (zr ?_))))
 refine vO (xM rfl Tryz.func177 rfl rfl rfl s0O) ?_
 refine vO (O.build rfl rfl rfl (by exact v0F)) ?_
 refine yo ?_
 intro B1
 refine zc (zJ (zn (zD (zr ?_))))
 refine zb ?_
 refine zb ?_
 refine vA ?_
 refine zq ?_
 refine zb ?_
 refine vO (O.callLB rfl Tryz.func178 rfl rfl rfl (by repeat(exact List.Mem.head _)) (q0p _ _ (s0n _)) (o0D _ _) (by(repeat(first|exact LendB.nil|refine LendB.lend ?_|refine LendB.same ?_));done)) ?_
 refine vA ?_
 refine zq ?_
 refine AO.store (i:=0) rfl rfl rfl rfl rfl rfl (by exact d0z _ _) (by exact a0b _ _) (by exact Nat.ble_eq_true_of_le (Nat.le_of_eq (p0D _).symm)) (by exact u0h _ rfl) (by(dsimp only[List.set,List.append,cA,cN,AV.cells,a0e,List.take,List.drop,Nat.reduceAdd];done)) (zJ (zn (zD (zr ?_))))
 refine zb ?_
 refine zc (zJ (zn (xj ?_)))
 rw[p0D]
 refine vz rfl rfl ⟨_,by repeat(first|exact List.Sublist.slnil|refine List.Sublist.cons_cons _ ?_),List.Perm.refl _⟩ (⟨B1,rfl,rfl⟩)
theorem i0y (w f:Nat→UInt8):Sp Tryz.prog 179 [.rp (g0Z w) 0,.agg (arB 16 f)] [] (Is (.agg (arB 16 (enc w f)))):=by
 refine yX Tryz.func179 _ Tryz.ntmps179 (fun w0 R0=> ?_)
 refine zD (zr ?_)
 refine yo ?_
 intro B1
 refine zd ?_
 intro B2
 refine zJ (zn (zD (zr ?_)))
 refine vu ?_
 refine zd ?_
 intro B3
 refine xi 0 (zJ (zn (zD ?_)))
 refine yA 6 ?_
 simp only[cT,cZ,cD,cO]
 refine zH ?_
 refine vP (O.nilCheckR rfl rfl) ?_
 refine vP (O.fieldAddrR rfl rfl) ?_
 refine zH ?_
 refine vP (O.nilCheckR rfl rfl) ?_
 refine vP (O.fieldAddrR rfl rfl) ?_
 refine vb ?_
 simp only[a0h,cN,cA,cP]
 refine xz 0 rfl rfl Tryz.func197 rfl rfl rfl rfl rfl rfl (m0Z _ f w (g0Z w) (g0Z w) 0 512 (s0n w) (v0N w)) (zJ (zn (zD (zr ?_))))
 refine xF ?_
 refine xi 1 (zJ (zn (xj ?_)))
 refine AQ.retCell rfl rfl mM (by rfl) rfl nS (⟨rfl,rfl⟩)
def v0I (key blk:List UInt8):List UInt8:=if key.length=16∧blk.length=16 then fnB 16 (enc (wS (kf key)) (kf blk))else []
def w0j (key blk:List UInt8):Int:=if key.length=16∧blk.length=16 then 0 else 1
def u0q (w f:Nat→UInt8):Nat→Nat→UInt8
 |0=>f
 |k+1=>shF iv 3 (if 10-k<10 then f0w (fun q=>u0q w f k q^^^w ((10-k)*16+q)) w0L else fun q=>u0q w f k q^^^w ((10-k)*16+q))
def dec (w f:Nat→UInt8)(q:Nat):UInt8:=u0q w f 10 q^^^w (0*16+q)
abbrev a0F (b:Nat)(f:Nat→UInt8):HE:= .blk b 171 16 (arB 16 f)
theorem b0x {b:Nat}{f g:Nat→UInt8}(h: ∀q,q<16→f q=g q):a0F b f=a0F b g:=congrArg (fun x=>HE.blk b 171 16 x) (a0c h)
theorem e0R (f k:Nat→UInt8):Sp Tryz.prog 201 [.agg (arB 16 f),.ro false 16 (arB 16 k)] [] (Is (.agg (arB 16 fun q=>f q^^^k q))):=by
 refine yX Tryz.func201 _ Tryz.ntmps201 (fun w0 R0=> ?_)
 refine zD (zr ?_)
 refine yo ?_
 intro B1
 refine zd ?_
 intro B2
 refine zJ (zn (zD (zD (zr ?_))))
 refine zb (zJ (zn (xo ?_)))
 have e0:a0F B1 f=a0F B1 (fun q=>if q<0 then f q^^^k q else f q):=b0x fun q _=>(if_neg (by omega)).symm
 refine zi [(1,_),(2,_),(4,_)] (fun nn E H=> ∃(i:Nat),(i≤16)∧nn=16-i∧E= [(6,.val (.int .i64 (i:Int)))]∧H= [a0F B2 (fun _=>0),a0F B1 (fun q=>if q<i then f q^^^k q else f q)]) _ (⟨0,by omega,rfl,rfl,congrArg (fun x=> [a0F B2 (fun _=>0),x]) e0⟩) ?_
 rintro nn E H ⟨i,hi,rfl,rfl,rfl⟩
 dsimp only[cA,cN]
 refine zD (zr ?_)
 refine zT (zJ (zn (zD ?_)))
 refine yt (fun h=> ?_) (fun h=> ?_)<;>(try simp only[vT]at h)
 ·refine y6 (zn (zD (xo (zD (zr ?_)))))
  refine zb ?_
  refine zc (zJ (zn ?_))
  refine yA 9 ?_
  simp only[cT,cZ,cD,cO]
  refine zH ?_
  refine yY ?_
  refine vP (O.load rfl rfl mM (by exact a0o (k:=i) (by omega) (by omega))) ?_
  refine zH ?_
  refine zH ?_
  refine xr ?_
  refine vP (O.loadR rfl rfl (by exact a0o (k:=i) (by omega) (by omega))) ?_
  refine wq ?_
  refine yY ?_
  refine vb ?_
  simp only[a0h,cN,cA,cP]
  refine yO 1 rfl rfl rfl rfl rfl rfl (by rfl) (by rfl) (by exact Nat.ble_eq_true_of_le (by rw[a0b];omega)) (by exact a0P (k:=i) (by omega) _ (by omega)) (zJ (xE (zn (zr ?_))))
  refine zB ?_
  refine zb (zJ ?_)
  have e:a0F B1 (fun q=>if q=i then(if i<i then f i^^^k i else f i)^^^k i else if q<i then f q^^^k q else f q)=a0F B1 (fun q=>if q<i+1 then f q^^^k q else f q):=b0x fun q _=>by
   rcases Nat.lt_trichotomy q i with h1|rfl|h1
   ·rw[if_neg (by omega),if_pos h1,if_pos (by omega)]
   ·rw[if_pos rfl,if_neg (by omega),if_pos (by omega)]
   rw[if_neg (by omega),if_neg (by omega),if_neg (by omega)]
  refine zu _ _ _ (by omega) (⟨i+1,by omega,rfl,rfl,congrArg (fun x=> [a0F B2 (fun _=>0),x]) e⟩)
 obtain rfl:i=16:=by omega
 refine wj ?_
 refine x8 ?_
 refine wd ?_
 refine xD (zn (zD (zr ?_)))
 refine vO (O.loadK rfl rfl mM (by exact List.take_of_length_le (Nat.le_of_eq (a0b _ _))) (by rfl)) ?_
 refine AO.store (i:=0) rfl rfl rfl rfl rfl rfl (by rfl) (by rfl) (by rfl) (by exact b0K rfl) (by(dsimp only[List.set,cA,cN,List.take,List.drop];done)) (zJ (zn (xj ?_)))
 refine AQ.retCell (ys:=arB 16 (fun q=>if q<16 then f q^^^k q else f q)) rfl rfl (by repeat(exact List.Mem.head _)) (List.take_of_length_le (Nat.le_of_eq (a0b _ _))) (a0b _ _) nS ⟨congrArg AV.agg (a0c fun q hq=>if_pos hq),rfl⟩
def rK (f m:Nat→UInt8)(c r:Nat):Nat→UInt8
 |0=>0
 |k+1=>rK f m c r k^^^m0F (f (4*c+k)) (m ((k+4-r)%4))
def q0B (f m:Nat→UInt8)(q:Nat):UInt8:=rK f m (q/4) (q%4) 4
theorem u0F (a b c:UInt8):a^^^ (b^^^c)=b^^^ (a^^^c):=by rw[←UInt8.xor_assoc,UInt8.xor_comm a b,UInt8.xor_assoc]
theorem t0b (f m:Nat→UInt8)(q:Nat):q0B f m q=f0w f m q:=by
 unfold q0B f0w
 have h4:q%4<4:=Nat.mod_lt _ (by decide)
 simp only[rK,s0f]
 generalize q/4=c at*
 generalize q%4=r at*
 rcases(show r=0∨r=1∨r=2∨r=3 by omega)with rfl|rfl|rfl|rfl<;>simp[UInt8.xor_assoc,UInt8.xor_comm,u0F]
def rU (f m:Nat→UInt8)(c r k q:Nat):UInt8:=if q=4*c+r then rK f m c r k else if q<4*c+r then q0B f m q else 0
theorem t0l (f m:Nat→UInt8){c r:Nat}(hr:r<4)(q:Nat):rU f m c r 4 q=rU f m c (r+1) 0 q:=by
 unfold rU
 rcases Nat.lt_trichotomy q (4*c+r)with h1|h1|h1
 ·rw[if_neg (by omega),if_pos h1,if_neg (by omega),if_pos (by omega)]
 ·rw[if_pos h1,if_neg (by omega),if_pos (by omega),q0B,h1,show(4*c+r)/4=c by omega,show(4*c+r)%4=r by omega]
 rw[if_neg (by omega),if_neg (by omega)]
 by_cases h2:q=4*c+(r+1)
 ·rw[if_pos h2];rfl
 rw[if_neg h2,if_neg (by omega)]
theorem v0a (f m:Nat→UInt8){c:Nat}(q:Nat):rU f m c 4 0 q=rU f m (c+1) 0 0 q:=by
 unfold rU
 rw[show 4*(c+1)+0=4*c+4 by omega]
 by_cases h:q=4*c+4
 ·rw[if_pos h,if_pos h];rfl
 rw[if_neg h,if_neg h]
theorem t0k (f m:Nat→UInt8)(q:Nat):rU f m 0 0 0 q=0:=by
 unfold rU
 by_cases h:q=4*0+0
 ·rw[if_pos h];rfl
 rw[if_neg h,if_neg (by omega)]
theorem o0f (f m:Nat→UInt8):Sp Tryz.prog 202 [.agg (arB 16 f),.agg (arB 4 m)] [] (Is (.agg (arB 16 (f0w f m)))):=by
 refine yX Tryz.func202 _ Tryz.ntmps202 (fun w0 R0=> ?_)
 refine zD (zr ?_)
 refine yo ?_
 intro B1
 refine yo ?_
 intro B2
 refine zd ?_
 intro B3
 refine zJ (zn (zD (zr ?_)))
 refine zd ?_
 intro B4
 refine zJ (zn (zD (zD (zr ?_))))
 refine zb (zJ (zn (xo ?_)))
 have e0:a0F B4 (fun _=>0)=a0F B4 (rU f m 0 0 0):=b0x fun q _=>(t0k f m q).symm
 refine zi [(2,_),(3,_),(4,_),(5,_)] (fun nn E H=> ∃(c:Nat),(c≤4)∧nn=4-c∧E= [(9,.val (.int .i64 (c:Int)))]∧H= [a0F B4 (rU f m c 0 0),a0F B3 (fun _=>0),.blk B2 215 4 (arB 4 m),a0F B1 f]) _ (⟨0,by omega,rfl,rfl,congrArg (fun x=> [x,a0F B3 (fun _=>0),.blk B2 215 4 (arB 4 m),a0F B1 f]) e0⟩) ?_
 rintro nn E H ⟨c,hc,rfl,rfl,rfl⟩
 dsimp only[cA,cN]
 refine zD (zr ?_)
 refine zT (zJ (zn (zD ?_)))
 refine yt (fun h=> ?_) (fun h=> ?_)<;>(try simp only[vT]at h)
 ·refine y6 (zn (zD (xo (zD (zr ?_)))))
  refine zb ?_
  refine zc (zJ (zn (zD (zr ?_))))
  refine zb (zJ (zn (xo ?_)))
  refine zi [(2,_),(3,_),(4,_),(5,_),(6,_),(9,_)] (fun nn E H=> ∃(r:Nat),(r≤4)∧nn=4-r∧E= [(12,.val (.int .i64 (r:Int)))]∧H= [a0F B4 (rU f m c r 0),a0F B3 (fun _=>0),.blk B2 215 4 (arB 4 m),a0F B1 f]) _ (⟨0,by omega,rfl,rfl,rfl⟩) ?_
  rintro nn E H ⟨r,hr,rfl,rfl,rfl⟩
  dsimp only[cA,cN]
  refine zD (zr ?_)
  refine zT (zJ (zn (zD ?_)))
  refine yt (fun h2=> ?_) (fun h2=> ?_)<;>(try simp only[vT]at h2)
  ·have hr':r<4:=by omega
   have hc':c<4:=by omega
   refine y6 (zn (zD (xo (zD (zr ?_)))))
   refine zb ?_
   refine zc (zJ (zn (zD (zr ?_))))
   refine zb (zJ (zn (xo ?_)))
   refine zi [(2,_),(3,_),(4,_),(5,_),(6,_),(7,_),(9,_),(12,_)] (fun nn E H=> ∃(k:Nat),(k≤4)∧nn=4-k∧E= [(15,.val (.int .i64 (k:Int)))]∧H= [a0F B4 (rU f m c r k),a0F B3 (fun _=>0),.blk B2 215 4 (arB 4 m),a0F B1 f]) _ (⟨0,by omega,rfl,rfl,rfl⟩) ?_
   rintro nn E H ⟨k,hk,rfl,rfl,rfl⟩
   dsimp only[cA,cN]
   refine zD (zr ?_)
   refine zT (zJ (zn (zD ?_)))
   refine yt (fun h3=> ?_) (fun h3=> ?_)<;>(try simp only[vT]at h3)
   ·refine y6 (zn (zD (xo (zD (zr ?_)))))
    refine zb ?_
    refine zc (zJ (zn ?_))
    refine yA 22 ?_
    simp only[cT,cZ,cD,cO]
    refine zH ?_
    refine xv ?_
    refine zH ?_
    refine xm ?_
    refine yY ?_
    refine vP (O.load rfl rfl (by repeat(exact List.Mem.head _)) (by exact a0o (k:=4*c+r) (by omega) (by omega))) ?_
    refine zH ?_
    refine xv ?_
    refine zH ?_
    refine xm ?_
    refine yY ?_
    refine vP (O.load rfl rfl mM (by exact a0o (k:=4*c+k) (by omega) (by omega))) ?_
    refine zH ?_
    refine zH ?_
    refine xX ?_
    refine xm ?_
    refine vP wh ?_
    refine yY ?_
    refine vP (O.load rfl rfl mM (by exact a0o (k:=(k+4-r)%4) (by omega) (by omega))) ?_
    refine vP (xM rfl Tryz.func209 rfl rfl rfl (o0V _ _)) ?_
    refine wq ?_
    refine yY ?_
    refine vb ?_
    simp only[a0h,cN,cA,cP]
    refine yO 0 rfl rfl rfl rfl rfl rfl (by rfl) (by rfl) (by exact Nat.ble_eq_true_of_le (by rw[a0b];omega)) (by exact a0P (k:=4*c+r) (by omega) _ (by omega)) (zJ (xE (zn (zr ?_))))
    refine zB ?_
    refine zb (zJ ?_)
    have e:a0F B4 (fun q=>if q=4*c+r then rU f m c r k (4*c+r)^^^m0F (f (4*c+k)) (m ((k+4-r)%4))else rU f m c r k q)=a0F B4 (rU f m c r (k+1)):=b0x fun q _=>by
     unfold rU
     by_cases h1:q=4*c+r
     ·rw[if_pos h1,if_pos rfl,if_pos h1];rfl
     rw[if_neg h1,if_neg h1,if_neg h1]
    refine zu _ _ _ (by omega) (⟨k+1,by omega,rfl,rfl,congrArg (fun x=> [x,a0F B3 (fun _=>0),.blk B2 215 4 (arB 4 m),a0F B1 f]) e⟩)
   obtain rfl:k=4:=by omega
   refine wj ?_
   refine x8 ?_
   refine wd ?_
   refine xD (xE (zn (zr ?_)))
   refine zB ?_
   refine zb (zJ ?_)
   have e:a0F B4 (rU f m c r 4)=a0F B4 (rU f m c (r+1) 0):=b0x fun q _=>t0l f m hr' q
   refine zu _ _ _ (by omega) (⟨r+1,by omega,rfl,rfl,congrArg (fun x=> [x,a0F B3 (fun _=>0),.blk B2 215 4 (arB 4 m),a0F B1 f]) e⟩)
  obtain rfl:r=4:=by omega
  refine wj ?_
  refine x8 ?_
  refine wd ?_
  refine xD (xE (zn (zr ?_)))
  refine zB ?_
  refine zb (zJ ?_)
  have e:a0F B4 (rU f m c 4 0)=a0F B4 (rU f m (c+1) 0 0):=b0x fun q _=>v0a f m q
  refine zu _ _ _ (by omega) (⟨c+1,by omega,rfl,rfl,congrArg (fun x=> [x,a0F B3 (fun _=>0),.blk B2 215 4 (arB 4 m),a0F B1 f]) e⟩)
 obtain rfl:c=4:=by omega
 refine wj ?_
 refine x8 ?_
 refine wd ?_
 refine xD (zn (zD (zr ?_)))
 refine vO (O.loadK rfl rfl (by repeat(exact List.Mem.head _)) (by exact List.take_of_length_le (Nat.le_of_eq (a0b _ _))) (by rfl)) ?_
 refine AO.store (i:=1) rfl rfl rfl rfl rfl rfl (by rfl) (by rfl) (by rfl) (by exact b0K rfl) (by(dsimp only[List.set,cA,cN,List.take,List.drop];done)) (zJ (zn (xj ?_)))
 refine AQ.retCell (ys:=arB 16 (rU f m 4 0 0)) rfl rfl mM (List.take_of_length_le (Nat.le_of_eq (a0b _ _))) (a0b _ _) nS ⟨congrArg AV.agg (a0c fun q hq=>by rw[←t0b];unfold rU;rw[if_neg (by omega),if_pos (by omega)]),rfl⟩
theorem q0J (key blk:List UInt8):Sp Tryz.prog 186 [roB key,roB blk] [] (Is (.tup [roB (v0I key blk),.val (.int .i64 (w0j key blk))])):=by
 refine yX Tryz.func186 _ Tryz.ntmps186 (fun w0 R0=> ?_)
 refine zD (zr ?_)
 refine zc ?_
 refine zc (zJ (zn (zD (zD (zr ?_)))))
 refine zb ?_
 refine zX ?_
 refine y2 ?_
 refine zb ?_
 refine yC ?_
 refine yb 17 ?_
 refine xW 18 ?_
 refine zI (zJ (zn ?_))
 refine yt (fun h=> ?_) (fun h=> ?_)<;>(try simp only[vT]at h)
 ·have e1:v0I key blk= []:=if_neg (by omega)
  have e2:w0j key blk=1:=if_neg (by omega)
  rw[e1,e2]
  refine zD (zr ?_)
  refine zc ?_
  refine zc (zJ (zn (xj (xx ?_))))
  refine wa yV yv (⟨rfl,rfl⟩)
 have hk:key.length=16:=by omega
 have hb:blk.length=16:=by omega
 rw[v0I,w0j,if_pos ⟨hk,hb⟩,if_pos ⟨hk,hb⟩]
 refine AW.g ?_
 refine G.re 0 (.ro false 16 (arB 16 (kf key))) (congrArg some (i0Q hk)) ?_
 refine AW.u ?_
 refine AW.g ?_
 refine G.re 1 (.ro false 16 (arB 16 (kf blk))) (congrArg some (i0Q hb)) ?_
 refine AW.u ?_
 obtain⟨w,hwd⟩: ∃w,w=wS (kf key):=⟨_,rfl⟩
 have hs0:(arB 176 (wS (kf key))).take (16*1)=arB 16 (fun q=>w (0*16+q)):=by
  have:=h0F (n:=176) (f:=w) (j:=0) (k:=16) (by omega)
  rw[hwd]at this⊢
  simpa using this
 have hseg: ∀r,r<11→((arB 176 w).drop (16*r*1)).take (16*1)=arB 16 fun q=>w (r*16+q):=fun r hr=>by
  rw[show 16*r*1=r*16 by omega];exact h0F (by omega)
 refine y6 (zn (zD (zr ?_)))
 refine vO (xM rfl Tryz.func199 rfl rfl rfl l0p) ?_
 refine wz ?_
 intro B1
 refine yg 0 (zJ (zn (zD (zr ?_))))
 refine zb ?_
 refine xF ?_
 refine vO (xM rfl Tryz.func200 rfl rfl rfl (i0P _)) ?_
 refine zc (zJ (zn (zD ?_)))
 refine yA 7 ?_
 simp only[cT,cZ,cD,cO]
 refine zH ?_
 refine vP (O.toArr rfl rfl (by omega) (by omega)) ?_
 refine vP (O.loadRK rfl rfl (by exact List.take_of_length_le (Nat.le_of_eq (a0b _ _))) (by exact a0b _ _)) ?_
 refine zH ?_
 refine vP (O.sliceTo (k:=16) rfl rfl rfl (by rfl) (by omega) (by exact hs0)) ?_
 refine vP (xM rfl Tryz.func201 rfl rfl rfl (e0R _ _)) ?_
 refine yS ?_
 refine vb ?_
 simp only[a0h,cN,cA,cP]
 rintro _ _ ⟨B2,rfl,rfl⟩
 simp only[cA,cN]
 refine xi 0 (zJ (zn (zD (zD (zr ?_)))))
 refine zc (zJ (zn (xo ?_)))
 rw[←hwd]
 refine zi [(6,_),(7,_),(8,_)] (fun nn E H=> ∃(j:Nat),(j≤10)∧nn=10-j∧E= [(9,.val (.int .i64 ((j+1:Nat):Int)))]∧H= [a0F B2 (d0U w (kf blk) j),.blk B1 181 256 (arB 256 RB)]) _ (⟨0,by omega,rfl,rfl,rfl⟩) ?_
 rintro nn E H ⟨j,hj,rfl,rfl,rfl⟩
 dsimp only[cA,cN]
 refine zD (zD (zr ?_))
 refine zb ?_
 refine vO wI (zJ (zn ?_))
 refine yt (fun hj1=> ?_) (fun hj1=> ?_)<;>(try simp only[vT]at hj1)
 ·obtain⟨g,hg⟩: ∃g,g=d0U w (kf blk) j:=⟨_,rfl⟩
  have hst: ∀q,d0U w (kf blk) (j+1) q=(if j+1<10 then f0w (shF sb 1 g) g0q else shF sb 1 g) q^^^w ((j+1)*16+q):=fun q=>by rw[d0U,hg]
  rw[←hg]
  refine y6 (zn (zD (xo (zD (zr ?_)))))
  refine zd ?_
  intro B3
  refine zJ (zn (zD (zD (zr ?_))))
  refine zb (zJ (zn (xo ?_)))
  have e0:a0F B3 (fun _=>0)=a0F B3 (fun q=>if q<4*0+0 then shF sb 1 g q else 0):=b0x fun q _=>(if_neg (by omega)).symm
  refine zi [(6,_),(7,_),(8,_),(9,_),(10,_)] (fun nn E H=> ∃(c:Nat),(c≤4)∧nn=4-c∧E= [(35,.val (.int .i64 (c:Int)))]∧H= [a0F B3 (fun q=>if q<4*c+0 then shF sb 1 g q else 0),a0F B2 g,.blk B1 181 256 (arB 256 RB)]) _ (⟨0,by omega,rfl,rfl,congrArg (fun x=> [x,a0F B2 g,.blk B1 181 256 (arB 256 RB)]) e0⟩) ?_
  rintro nn E H ⟨c,hc,rfl,rfl,rfl⟩
  dsimp only[cA,cN]
  refine zD (zr ?_)
  refine zT (zJ (zn (zD ?_)))
  refine yt (fun hc4=> ?_) (fun hc4=> ?_)<;>(try simp only[vT]at hc4)
  ·refine y6 (zn (zD (xo (zD (zr ?_)))))
   refine zb ?_
   refine zc (zJ (zn (zD (zr ?_))))
   refine zb (zJ (zn (xo ?_)))
   refine zi [(6,_),(7,_),(8,_),(9,_),(10,_),(11,_),(35,_)] (fun nn E H=> ∃(r:Nat),(r≤4)∧nn=4-r∧E= [(38,.val (.int .i64 (r:Int)))]∧H= [a0F B3 (fun q=>if q<4*c+r then shF sb 1 g q else 0),a0F B2 g,.blk B1 181 256 (arB 256 RB)]) _ (⟨0,by omega,rfl,rfl,rfl⟩) ?_
   rintro nn E H ⟨r,hr,rfl,rfl,rfl⟩
   dsimp only[cA,cN]
   refine zD (zr ?_)
   refine zT (zJ (zn (zD ?_)))
   refine yt (fun hr4=> ?_) (fun hr4=> ?_)<;>(try simp only[vT]at hr4)
   ·have hr':r<4:=by omega
    have hix:(0+(4*(((c:Int)+(r:Int))%4)+(r:Int)).toNat*1)=r+4*((c+r)%4):=by
     have hi:(4*(((c:Int)+(r:Int))%4)+(r:Int))=((r+4*((c+r)%4):Nat):Int):=by push_cast;omega
     rw[hi,Int.toNat_natCast];omega
    have hgb:(arB 16 g)[0+(4*(((c:Int)+(r:Int))%4)+(r:Int)).toNat*1]? =some (by8 (g (r+4*((c+r)%4)))):=by rw[hix];exact a0o (by omega) rfl
    have hsh:shF sb 1 g (4*c+r)=sb (g (r+4*((c+r)%4))):=by
     rw[shF,show(4*c+r)%4=r by omega,show(4*c+r)/4=c by omega,Nat.one_mul]
    refine y6 (zn (zD (xo (zD (zr ?_)))))
    refine zb ?_
    refine zc (zJ (zn (zr ?_)))
    refine zb ?_
    refine wF ?_
    refine zb ?_
    refine zB ?_
    refine zb ?_
    refine zb ?_
    refine zB ?_
    refine wn ?_
    refine wF ?_
    refine zb ?_
    refine zB ?_
    refine xV ?_
    refine vO (O.load rfl rfl mM (by exact hgb)) ?_
    refine vO (O.idxL rfl rfl rfl (by exact n0I _)) ?_
    refine vO wN ?_
    refine xV ?_
    refine yO 0 rfl rfl rfl rfl rfl rfl (by rfl) (by rfl) (by exact Nat.ble_eq_true_of_le (by rw[a0b];omega)) (by exact a0P (k:=4*c+r) (by omega) _ (by omega)) (zJ (xE (zn (zr ?_))))
    refine zB ?_
    refine zb (zJ ?_)
    have e:a0F B3 (fun q=>if q=4*c+r then sb (g (r+4*((c+r)%4)))else if q<4*c+r then shF sb 1 g q else 0)=a0F B3 (fun q=>if q<4*c+(r+1)then shF sb 1 g q else 0):=b0x fun q _=>by
     rw[←hsh]
     rcases Nat.lt_trichotomy q (4*c+r)with h1|h1|h1
     ·rw[if_neg (by omega),if_pos h1,if_pos (by omega)]
     ·rw[if_pos h1,if_pos (by omega),h1]
     rw[if_neg (by omega),if_neg (by omega),if_neg (by omega)]
    refine zu _ _ _ (by omega) (⟨r+1,by omega,rfl,rfl,congrArg (fun x=> [x,a0F B2 g,.blk B1 181 256 (arB 256 RB)]) e⟩)
   obtain rfl:r=4:=by omega
   refine wj ?_
   refine x8 ?_
   refine wd ?_
   refine xD (xE (zn (zr ?_)))
   refine zB ?_
   refine zb (zJ ?_)
   refine zu _ _ _ (by omega) (⟨c+1,by omega,rfl,rfl,rfl⟩)
  obtain rfl:c=4:=by omega
  have e:a0F B3 (fun q=>if q<4*4+0 then shF sb 1 g q else 0)=a0F B3 (shF sb 1 g):=b0x fun q hq=>if_pos hq
  rw[e]
  refine wj ?_
  refine x8 ?_
  refine wd ?_
  refine xD (zn (zD (zD (zr ?_))))
  refine zb ?_
  refine zT (zJ (zn ?_))
  refine yt (fun h10=> ?_) (fun h10=> ?_)<;>(try simp only[vT]at h10)
  ·refine zr ?_
   refine xF ?_
   refine zP ?_
   refine vO (xM rfl Tryz.func202 rfl rfl rfl (o0f _ g0q)) ?_
   refine yg 0 (zJ (zn ?_))
   refine yA 9 ?_
   simp only[cT,cZ,cD,cO]
   refine vD ?_
   refine zH ?_
   refine zH ?_
   refine xv ?_
   refine zH ?_
   refine xv ?_
   refine xm ?_
   refine vP (O.sliceLHm (m:=16) rfl rfl rfl rfl (l:=16*(j+1)) (h:=16*(j+1)+16) (by omega) (by omega) (by omega) (by omega) (by omega) (by exact hseg (j+1) (by omega))) ?_
   refine vP (xM rfl Tryz.func201 rfl rfl rfl (e0R _ _)) ?_
   refine vb ?_
   simp only[a0h,cN,cA,cP]
   refine yg 1 (zJ (xE (zn (zr ?_))))
   refine zb ?_
   refine zB ?_
   refine zc (zJ ?_)
   have e2:a0F B2 (fun q=>f0w (shF sb 1 g) g0q q^^^w ((j+1)*16+q))=a0F B2 (d0U w (kf blk) (j+1)):=b0x fun q _=>by rw[hst,if_pos (by omega)]
   refine zL _ _ _ (by omega) (⟨j+1,by omega,rfl,rfl,congrArg (fun x=> [x,.blk B1 181 256 (arB 256 RB)]) e2⟩)
  refine y6 (zn ?_)
  refine yA 9 ?_
  simp only[cT,cZ,cD,cO]
  refine vD ?_
  refine zH ?_
  refine zH ?_
  refine xv ?_
  refine zH ?_
  refine xv ?_
  refine xm ?_
  refine vP (O.sliceLHm (m:=16) rfl rfl rfl rfl (l:=16*(j+1)) (h:=16*(j+1)+16) (by omega) (by omega) (by omega) (by omega) (by omega) (by exact hseg (j+1) (by omega))) ?_
  refine vP (xM rfl Tryz.func201 rfl rfl rfl (e0R _ _)) ?_
  refine vb ?_
  simp only[a0h,cN,cA,cP]
  refine yg 1 (zJ (xE (zn (zr ?_))))
  refine zb ?_
  refine zB ?_
  refine zc (zJ ?_)
  have e2:a0F B2 (fun q=>shF sb 1 g q^^^w ((j+1)*16+q))=a0F B2 (d0U w (kf blk) (j+1)):=b0x fun q _=>by rw[hst,if_neg (by omega)]
  refine zL _ _ _ (by omega) (⟨j+1,by omega,rfl,rfl,congrArg (fun x=> [x,.blk B1 181 256 (arB 256 RB)]) e2⟩)
 obtain rfl:j=10:=by omega
 have ef:AV.ro false (16-0) (List.take ((16-0)*1) (arB 16 (d0U w (kf blk) 10)))=roB (fnB 16 (enc w (kf blk))):=by
  show AV.ro false 16 (List.take 16 (arB 16 (d0U w (kf blk) 10)))=_
  rw[List.take_of_length_le (Nat.le_of_eq (a0b _ _))]
  exact(b0L 16 _).symm
 refine wj ?_
 refine x8 ?_
 refine wd ?_
 refine xD (zn (zD (zr ?_)))
 refine vO (O.sliceArrK (p:=0) rfl rfl rfl rfl (by rfl) (by rfl) ⟨by omega,by omega⟩ (by omega)) ?_
 refine vR (O.appendNil rfl (by rfl) (by rfl) rfl rfl (by exact SrcA.blk TyD.ax (by repeat(exact List.Mem.head _)) (by(dsimp only[List.set,cA,cN,List.take,List.drop];done)) (by rfl)) (by rfl) (by(unfold maxLen;omega)) (by omega)) ?_
 intro V4 hV4
 refine zc ?_
 refine zc (zJ (zn (xj ?_)))
 refine AQ.g ?_
 refine yf 0 [4] ?_
 refine AQ.u ?_
 try dsimp only[List.map,List.eraseIdx,cA,cN]
 refine AQ.g ?_
 refine G.re 4 (roB (fnB 16 (enc w (kf blk)))) (congrArg some ef) ?_
 refine AQ.u ?_
 refine wa yV yR (⟨rfl,rfl⟩)
def bk (i q:Nat):UInt8:=if(iv (UInt8.ofNat q)).toNat<i then iv (UInt8.ofNat q)else 0
end Go.Proofs.YtojomcdjcpmnkaaGreat.By
namespace Go.Proofs.YtojomcdjcpmnkaaGreat.A
open Go.RowKit L
section
variable {P:Program}
def u0y:AV→Option Value
 | .val v=>some v
 | .agg xs=>(c0p xs).map fun vs=> .agg vs.toArray
 |_=>none
def i0Y:List AV→Option (List Value)
 | []=>some []
 |x::r=>match u0y x,i0Y r with|some v,some vs=>some (v::vs)|_,_=>none
theorem q0K {R:Nat→Prop}{W:World}{x:AV}{v u:Value}(h:u0y x=some v)(hr:RelV R W x u):u=v:=by
 cases x with
 |val w=>cases h;exact hr.val_inv
 | agg xs=>
  simp only[u0y]at h
  cases hq:c0p xs with
  |none=>rw[hq]at h;cases h
  |some vs=>
   rw[hq]at h
   cases h
   obtain⟨us,rfl,h1⟩:=hr.agg_inv
   rw[d0D hq h1]
 |_=>cases h
theorem g0j {R:Nat→Prop}{W:World}: ∀{xs:List AV} {vs us:List Value},i0Y xs=some vs→RelL R W xs us→us=vs
 | [],vs,us,h,hr=>by cases h;exact List.eq_nil_of_length_eq_zero (by simpa using hr.1)
 | x::xs,vs,us,h,hr=>by
  obtain⟨u,r,rfl,h1,h2⟩:=hr.uncons
  simp only[i0Y]at h
  split at h
  ·rename_i v vs' e1 e2
   cases h
   rw[q0K e1 h1,g0j e2 h2]
  ·cases h
theorem n0D {R:Nat→Prop}{W:World}: ∀{xs:List AV} {vs:List Value},c0p xs=some vs→RelL R W xs vs
 | [],vs,h=>by cases h;exact RelL.nil
 | x::xs,vs,h=>by
  cases x with
  | val w=>
   simp only[c0p]at h
   cases hq:c0p xs with
   |none=>rw[hq]at h;cases h
   |some us'=>
    rw[hq]at h
    cases h
    exact RelL.cons (.val _) (n0D hq)
  |_=>simp[c0p]at h
theorem o0z {R:Nat→Prop}{W:World}{x:AV}{v:Value}(h:u0y x=some v):RelV R W x v:=by
 cases x with
 |val w=>cases h;exact .val _
 |agg xs=>
  simp only[u0y]at h
  cases hq:c0p xs with
  |none=>rw[hq]at h;cases h
  |some vs=>rw[hq]at h;cases h;exact(n0D hq).toAgg
 |_=>cases h
theorem l0A {R:Nat→Prop}{W:World}: ∀{xs:List AV} {vs:List Value},i0Y xs=some vs→RelL R W xs vs
 | [],vs,h=>by cases h;exact RelL.nil
 | x::xs,vs,h=>by
  simp only[i0Y]at h
  split at h
  ·rename_i v vs' e1 e2
   cases h
   exact RelL.cons (o0z e1) (l0A e2)
  ·cases h
theorem l0x {W W':World}{R:Nat→Prop}(hR: ∀b,R b→b<W.heap.size)(hE:Ext W W'):RelS ⟨W,a0E [],R,0⟩ R [] W':=
 ⟨hE.mono fun b _ h=>h.elim,fun b hb=>Nat.lt_of_lt_of_le (hR b hb) hE.size,fun _ h=>h,fun _ h=> .inl h,fun _ h=>(by cases h),fun _ h=>(by cases h),.nil⟩
theorem Sp.of_calls {f:FuncId}{args:List AV}{us:List Value}{r:AV}{v:Value}(ha:i0Y args=some us)(hr:u0y r=some v)(h: ∀W,Calls P f us.toArray W fun e W'=>e= .returned v∧Ext W W'):Sp P f args [] (Is r):=fun W R us' hR _ _ hrel=>by
 obtain rfl:=g0j ha hrel
 refine(h W).mono ?_
 rintro e W' ⟨rfl,hE⟩
 exact⟨v,r,[],R,rfl,⟨rfl,rfl⟩,l0x hR hE,o0z hr⟩
theorem Sp.of_calls2 {f:FuncId}{args:List AV}{us:List Value}{rs:List AV}{vs:List Value}(ha:i0Y args=some us)(hr:i0Y rs=some vs)(h: ∀W,Calls P f us.toArray W fun e W'=>e= .returned (.tuple vs.toArray)∧Ext W W'):Sp P f args [] (Is (.tup rs)):=fun W R us' hR _ _ hrel=>by
 obtain rfl:=g0j ha hrel
 refine(h W).mono ?_
 rintro e W' ⟨rfl,hE⟩
 exact⟨_,.tup rs,[],R,rfl,⟨rfl,rfl⟩,l0x hR hE,(l0A hr).toTup⟩
theorem Sp.frozen {f:FuncId}{args:List AV}{T:TypeId}{sz n:Nat}{ys:List AV}(h:Sp P f args [] (b0p T sz n ys)):Sp P f args [] (Is (.ro false n ys)):=fun W R us h1 h2 h3 h4=>by
 refine(h W R us h1 h2 h3 h4).mono ?_
 rintro e W' ⟨u,r,H',R',rfl,⟨v,rfl,hv1,rfl⟩,hs,hv⟩
 have hok:=hs.ok _ (List.mem_cons_self ..)
 have hown:=hs.own _ (List.mem_cons_self ..)
 have hu:=hv.val_inv
 subst hu
 refine⟨u,.ro false n ys,[],fun b=>R' b∨(HE.row u T sz n ys).foot b,rfl,⟨rfl,rfl⟩,⟨hs.mods,?_,fun b hb=> .inl (hs.rsub b hb),?_,fun _ h=>(by cases h),fun _ h=>(by cases h),.nil⟩,l0s hok⟩
 ·rintro b (hb|hb)
  ·exact hs.rlt b hb
  ·exact HE.ok_lt hok hb
 ·rintro b (hb|hb)
  ·exact hs.rnew b hb
  ·exact .inr (hown b hb).1
end
end Go.Proofs.YtojomcdjcpmnkaaGreat.A
namespace Go.Proofs.YtojomcdjcpmnkaaGreat.By
open Go.RowKit L A
attribute [local irreducible] AW AQ AO
theorem u0P (x:Int):0≤IntKind.u64.wrap x:=by rw[IntKind.wrap_u64];exact Int.emod_nonneg _ (by decide)
def q0l (k:Int)(i:Nat):UInt8:=u8 (((u8 ((IntKind.u64.wrap k).fdiv (2^min (IntKind.u64.wrap (8*IntKind.u64.wrap ((i:Int).tmod 8))).toNat IntKind.u64.bits))).toNat:Int)+((u8 (IntKind.i64.wrap ((i:Int).tdiv 8))).toNat:Int))
def n0P (k:Int)(n:Nat):List UInt8:=fnB n (q0l k)
theorem n0O (k:Int)(n:Nat):(n0P k n).length=n:=a0L _ _
theorem q0k (k:Int)(n:Nat)(hn:n≤1000000):Sp Tryz.prog 107 [.val (.int .i64 k),.val (.int .i64 (n:Int))] [] (b0p 5 1 n (arB n (q0l k))):=by
 refine yX Tryz.func107 _ Tryz.ntmps107 (fun w0 R0=> ?_)
 refine zD (zr ?_)
 refine zc (zJ (zn (zD (zr ?_))))
 refine zc (zJ (zn (zD (zD (zr ?_)))))
 refine zb ?_
 refine zb (zJ (zn (xo ?_)))
 refine AW.g ?_
 refine G.nilRow 5 1 ?_
 refine AW.u ?_
 refine zi [(0,_),(7,_)] (fun nn E H=> ∃(i:Nat) (V:Value),(i≤n)∧(V.oneCell'=true)∧nn=n-i∧E= [(5,.val V),(8,.val (.int .i64 (i:Int)))]∧H= [.row V 5 1 i (arB i (q0l k))]) _ (⟨0,_,by omega,rfl,rfl,rfl,rfl⟩) ?_
 rintro nn E H ⟨i,V,h1,hV,rfl,rfl,rfl⟩
 dsimp only[cA,cN]
 have hsh:=u0P (8*IntKind.u64.wrap ((i:Int).tmod 8))
 refine zD (zr ?_)
 refine zT (zJ (zn (zD ?_)))
 refine yt (fun h=> ?_) (fun h=> ?_)<;>(try simp only[vT]at h)
 ·refine y6 (zn (zD (xo (zD (zr ?_)))))
  refine zb ?_
  refine zc (zJ (zn (zr ?_)))
  refine zb ?_
  refine zb ?_
  refine vO (O.conv rfl rfl (by rfl)) ?_
  refine zb ?_
  refine vO (O.rem rfl rfl rfl (by omega) rfl) ?_
  refine vO (O.conv rfl rfl (by rfl)) ?_
  refine vO (O.mul rfl rfl rfl (by rfl)) ?_
  refine vO (O.shr rfl rfl rfl (by omega) rfl) ?_
  refine xg ?_
  refine zb ?_
  refine vO (O.quo rfl rfl rfl (by omega) (by rfl)) ?_
  refine xg ?_
  refine vO (O.add rfl rfl rfl (by exact d0m)) ?_
  refine zR ?_
  intro B1
  refine AO.g ?_
  refine yi 0 24 ?_
  refine wm 24 ?_
  refine AO.u ?_
  dsimp only[List.eraseIdx]
  refine y7 0 ?_
  intro V2 hV2
  refine zc (zJ (xE (zn (zr ?_))))
  refine zB ?_
  refine zb (zJ ?_)
  refine zu _ _ _ (by omega) (⟨i+1,V2,by omega,hV2,rfl,rfl,congrArg (fun xs=> [HE.row V2 5 1 (i+1) xs]) (c0w (f:=q0l k) (n:=i) rfl)⟩)
 obtain rfl:i=n:=by omega
 refine wj ?_
 refine x8 ?_
 refine wd ?_
 refine xD (zn (zD (zr ?_)))
 refine zb ?_
 refine zc (zJ (zn (xj ?_)))
 refine vz rfl rfl ⟨_,by repeat(first|exact List.Sublist.slnil|refine List.Sublist.cons_cons _ ?_),List.Perm.refl _⟩ (⟨V,rfl,hV,rfl⟩)
theorem s0P (k z:Int)(hz:0≤z∧z≤1000000):Sp Tryz.prog 107 [.val (.int .i64 k),.val (.int .i64 z)] [] (Is (roB (n0P k z.toNat))):=by
 have h:=Sp.frozen (q0k k z.toNat (by omega))
 rw[show((z.toNat:Nat):Int)=z by omega]at h
 rw[n0P,b0L]
 exact h
end Go.Proofs.YtojomcdjcpmnkaaGreat.By
namespace Go.Proofs.YtojomcdjcpmnkaaGreat.By
open Go.RowKit L A
def DX (b:UInt8):Prop:= ∀a,dbl (a^^^b)=dbl a^^^dbl b
theorem DX.xor {b c:UInt8}(h:DX b)(k:DX c):DX (b^^^c):=fun a=>by
 rw[←UInt8.xor_assoc,k,h,k,UInt8.xor_assoc]
theorem DX.zero:DX 0:=fun a=>by rw[UInt8.xor_zero,show dbl 0=0 from rfl,UInt8.xor_zero]
theorem e0n {S:UInt8→UInt8}{d:Nat}{f g:Nat→UInt8}(h: ∀q,q<16→f q=g q): ∀q,q<16→shF S d f q=shF S d g q:=fun q hq=>by
 unfold shF
 rw[h _ (by omega)]
theorem h0s {f g m:Nat→UInt8}{i:Nat}(hi:i<16)(h: ∀q,q<16→f q=g q): ∀k,s0f f m i k=s0f g m i k
 |0=>rfl
 |k+1=>by rw[s0f,s0f,h0s hi h k,h _ (by omega)]
theorem h0t {f g m:Nat→UInt8}(h: ∀q,q<16→f q=g q): ∀q,q<16→f0w f m q=f0w g m q:=fun q hq=>h0s hq h 4
theorem g0C (w f:Nat→UInt8)(q:Nat):d0U w f 0 q=f q^^^w (0*16+q):=rfl
theorem g0D (w f:Nat→UInt8)(j q:Nat):d0U w f (j+1) q=(if j+1<10 then f0w (shF sb 1 (d0U w f j)) g0q else shF sb 1 (d0U w f j)) q^^^w ((j+1)*16+q):=rfl
theorem f0g {w f g:Nat→UInt8}(h: ∀q,q<16→f q=g q): ∀j q,q<16→d0U w f j q=d0U w g j q
 |0,q,hq=>by rw[g0C,g0C,h q hq]
 | j+1,q,hq=>by
  rw[g0D,g0D]
  by_cases h9:j+1<10
  ·rw[if_pos h9,if_pos h9]
   show f0w _ _ q^^^_=f0w _ _ q^^^_
   rw[h0t (e0n (f0g h j)) q hq]
  rw[if_neg h9,if_neg h9]
  show shF _ _ _ q^^^_=shF _ _ _ q^^^_
  rw[e0n (f0g h j) q hq]
theorem g0B {w f g:Nat→UInt8}(h: ∀q,q<16→f q=g q): ∀q,q<16→enc w f q=enc w g q:=f0g h 10
theorem j0q {n:Nat}{f:Nat→UInt8}{q:Nat}(hq:q<n):kf (fnB n f) q=f q:=by simp[kf,fnB,hq]
def u0K (WL:List UInt8)(q:Nat):UInt8:=(if q%16<4 then sb (WL.getD (q-q%16-4+(q%16+1)%4) 0)^^^ (if q%16=0 then rcF (q/16-1)else 0)else WL.getD (q-4) 0)^^^WL.getD (q-16) 0
theorem u0M {key:Nat→UInt8}{WL:List UInt8}(h0: ∀q,q<16→key q=WL.getD q 0)(h: ∀q,q<176→16≤q→WL.getD q 0=u0K WL q): ∀q,q<176→wS key q=WL.getD q 0:=fun q=>by
 induction q using Nat.strongRecOn with
 |ind q ih=>
  intro hq
  by_cases h16:q<16
  ·rw[n0C h16,h0 q h16]
  rw[h q hq (by omega),u0N h16,u0K,ih (q-16) (by omega) (by omega)]
  by_cases h4:q%16<4
  ·rw[if_pos h4,if_pos h4,ih (q-q%16-4+(q%16+1)%4) (by omega) (by omega)]
  rw[if_neg h4,if_neg h4,ih (q-4) (by omega) (by omega)]
def r0x (WL:List UInt8)(g:List UInt8)(j q:Nat):UInt8:=(if j+1<10 then f0w (shF sb 1 (kf g)) g0q else shF sb 1 (kf g)) q^^^WL.getD ((j+1)*16+q) 0
theorem p0q {w f:Nat→UInt8}{WL:List UInt8}{ST:List (List UInt8)}(hw: ∀q,q<176→w q=WL.getD q 0)(h0: ∀q,q<16→f q^^^WL.getD q 0=kf (ST.getD 0 []) q)(h: ∀j,j<10→ ∀q,q<16→r0x WL (ST.getD j []) j q=kf (ST.getD (j+1) []) q):
  ∀j,j≤10→ ∀q,q<16→d0U w f j q=kf (ST.getD j []) q
 |0,_,q,hq=>by rw[g0C,←h0 q hq,hw _ (by omega)];congr 2;omega
 | j+1,hj,q,hq=>by
  have ih:=p0q hw h0 h j (by omega)
  rw[←h j (by omega) q hq,g0D,r0x,hw _ (by omega)]
  by_cases h9:j+1<10
  ·rw[if_pos h9,if_pos h9]
   show f0w _ _ q^^^_=f0w _ _ q^^^_
   rw[h0t (e0n ih) q hq]
  rw[if_neg h9,if_neg h9]
  show shF _ _ _ q^^^_=shF _ _ _ q^^^_
  rw[e0n ih q hq]
attribute [local irreducible] AW AQ AO
def cvB (key nonce:List UInt8)(tag:Int):Bool:=(key.length:Int)==16&&decide (7≤(nonce.length:Int))&&decide ((nonce.length:Int)≤13)&&decide (4≤tag)&&decide (tag≤16)&&tag.tmod 2==0
theorem m0a {key nonce:List UInt8}{tag:Int}(h:cvB key nonce tag=true):key.length=16∧7≤nonce.length∧nonce.length≤13∧4≤tag∧tag≤16∧tag%2=0:=by
 unfold cvB at h
 simp only[Bool.and_eq_true,beq_iff_eq,cQ]at h
 obtain⟨⟨⟨⟨⟨h1,h2⟩,h3⟩,h4⟩,h5⟩,h6⟩:=h
 rw[Int.tmod_eq_emod_of_nonneg (by omega)]at h6
 omega
theorem m0c (key nonce:List UInt8)(tag:Int):Sp Tryz.prog 156 [roB key,roB nonce,.val (.int .i64 tag)] [] (Is (.val (.bool (cvB key nonce tag)))):=by
 refine yX Tryz.func156 _ Tryz.ntmps156 (fun w0 R0=> ?_)
 refine zD (zr ?_)
 refine zc (zJ (zn (zD (zr ?_))))
 refine zb ?_
 refine zX ?_
 refine z8 ?_
 refine zb ?_
 refine yC ?_
 refine yb 11 ?_
 refine AO.opG rfl rfl rfl (fun hp=>ve 12 rfl (by exact hp) vC) ?_
 refine zW ?_
 refine zb ?_
 refine yC ?_
 refine yb 16 ?_
 refine xJ 17 ?_
 refine zW ?_
 refine zb ?_
 refine yC ?_
 refine AO.opG rfl rfl rfl (fun hp=>ve 21 rfl (by exact hp) vC) ?_
 refine zW ?_
 refine zb ?_
 refine yC ?_
 refine xJ 25 ?_
 refine zW ?_
 refine zb ?_
 refine yC ?_
 refine AO.opG rfl rfl rfl (fun hp=>ve 29 rfl (by exact hp) (O.rem rfl rfl rfl (by omega) rfl)) ?_
 refine xe 30 ?_
 refine zW ?_
 refine zc (zJ (zn (xj ?_)))
 refine yM
theorem i0U (key nonce:List UInt8)(tag:Int):Sp Tryz.prog 169 [roB key,roB nonce,.val (.int .i64 tag)] [] (Is (.val (.bool (cvB key nonce tag)))):=by
 refine yX Tryz.func169 _ Tryz.ntmps169 (fun w0 R0=> ?_)
 refine zD (zr ?_)
 refine zc (zJ (zn (zD (zr ?_))))
 refine zb ?_
 refine zX ?_
 refine z8 ?_
 refine zb ?_
 refine yC ?_
 refine yb 11 ?_
 refine AO.opG rfl rfl rfl (fun hp=>ve 12 rfl (by exact hp) vC) ?_
 refine zW ?_
 refine zb ?_
 refine yC ?_
 refine yb 16 ?_
 refine xJ 17 ?_
 refine zW ?_
 refine zb ?_
 refine yC ?_
 refine AO.opG rfl rfl rfl (fun hp=>ve 21 rfl (by exact hp) vC) ?_
 refine zW ?_
 refine zb ?_
 refine yC ?_
 refine xJ 25 ?_
 refine zW ?_
 refine zb ?_
 refine yC ?_
 refine AO.opG rfl rfl rfl (fun hp=>ve 29 rfl (by exact hp) (O.rem rfl rfl rfl (by omega) rfl)) ?_
 refine xe 30 ?_
 refine zW ?_
 refine zc (zJ (zn (xj ?_)))
 refine yM
def c0m (first:UInt8)(nonce:List UInt8)(n:Int)(q:Nat):UInt8:=if q=0 then first else if q≤nonce.length then kf nonce (q-1)else u8 (n/256^ (15-q))
def b0F (first:UInt8)(nonce:List UInt8)(q:Nat):UInt8:=if q=0 then first else if q≤nonce.length then kf nonce (q-1)else 0
theorem f0t (l:List UInt8):a0a l=arB l.length (kf l):=by
 have h:=p0l (l:=l) rfl
 exact(congrArg a0a h).symm
theorem w0X {first:UInt8}{nonce:List UInt8}(h:nonce.length≤15):a0e (arB 16 fun q=>if q=0 then first else 0) 1 ((a0a nonce).take (min nonce.length 15))=arB 16 (b0F first nonce):=by
 rw[Nat.min_eq_left h,List.take_of_length_le (Nat.le_of_eq (d0d _)),f0t,d0P (by omega)]
 refine a0c fun q hq=> ?_
 unfold b0F
 by_cases h0:q=0
 ·rw[if_neg (by omega),if_pos h0,if_pos h0]
 rw[if_neg h0,if_neg h0]
 by_cases h1:q≤nonce.length
 ·rw[if_pos (by omega),if_pos h1]
 rw[if_neg (by omega),if_neg h1]
def bI (first:UInt8)(nonce:List UInt8)(n:Int)(i q:Nat):UInt8:=if i<q then c0m first nonce n q else b0F first nonce q
theorem q0L (n:Int)(k:Nat):n/256^k/256=n/256^ (k+1):=by
 rw[Int.ediv_ediv_of_nonneg (Int.pow_nonneg (by decide)),Int.pow_succ]
theorem u0k {first:UInt8}{nonce:List UInt8}{n:Int}{i:Nat}(hi:i<15+1)(hl:nonce.length<i)(q:Nat):(if q=i then u8 (n/256^ (15-i))else bI first nonce n i q)=bI first nonce n (i-1) q:=by
 unfold bI
 rcases Nat.lt_trichotomy q i with h|h|h
 ·rw[if_neg (by omega),if_neg (by omega),if_neg (by omega)]
 ·rw[if_pos h,if_pos (by omega),c0m,if_neg (by omega),if_neg (by omega),h]
 rw[if_neg (by omega),if_pos h,if_pos (by omega)]
theorem u8_zero:u8 0=0:=by decide
theorem v0T {first:UInt8}{nonce:List UInt8}{n:Int}{i:Nat}(h:i≤nonce.length∨n/256^ (15-i)≤0)(hn:0≤n)(hi:i≤15)(q:Nat)(hq:q<16):bI first nonce n i q=c0m first nonce n q:=by
 unfold bI
 by_cases h1:i<q
 ·rw[if_pos h1]
 rw[if_neg h1]
 unfold b0F c0m
 by_cases h0:q=0
 ·rw[if_pos h0,if_pos h0]
 rw[if_neg h0,if_neg h0]
 by_cases h2:q≤nonce.length
 ·rw[if_pos h2,if_pos h2]
 rw[if_neg h2,if_neg h2]
 rcases h with h|h
 ·omega
 have hz:n/256^ (15-i)=0:=Int.le_antisymm h (Int.ediv_nonneg hn (Int.pow_nonneg (by decide)))
 have hq0:n/256^ (15-q)=0:=by
  rw[show 15-q=(15-i)+(i-q) by omega,Int.pow_add,←Int.ediv_ediv_of_nonneg (Int.pow_nonneg (by decide)),hz,Int.zero_ediv]
 rw[hq0];exact u8_zero.symm
theorem g0N (first:UInt8)(nonce:List UInt8)(n:Int)(hl:nonce.length≤13)(hn:0≤n∧n≤9223372036854775807):Sp Tryz.prog 180 [by8 first,roB nonce,.val (.int .i64 n)] [] (Is (.agg (arB 16 (c0m first nonce n)))):=by
 have hl:nonce.length≤15:=by omega
 refine yX Tryz.func180 _ Tryz.ntmps180 (fun w0 R0=> ?_)
 refine zD (zr ?_)
 refine zd ?_
 intro B1
 refine zJ (zn (zD (zr ?_)))
 refine zb ?_
 refine zP ?_
 refine zd ?_
 intro B2
 refine AO.store (i:=0) rfl rfl rfl rfl rfl rfl (by rfl) (by rfl) (by rfl) (by rfl) (by(dsimp only[List.set,cA,cN,List.take,List.drop];done)) (zJ (zn (zD (zr ?_))))
 refine vO (O.sliceArrK (p:=1) rfl rfl rfl rfl (by rfl) (by rfl) ⟨by omega,by omega⟩ (by omega)) ?_
 refine zb ?_
 refine AO.copyIn (i:=0) rfl rfl rfl rfl (by exact d0d _) (by exact h0D _) rfl (by show 0+1*1+min nonce.length (16-1)≤16;omega) (by exact w0X hl) rfl rfl (fun q h=>by cases h;exact lB rfl) ?_
 rintro _ rfl
 dsimp only[List.set]
 refine zJ (zn (zD (zD (zr ?_))))
 refine zc (zJ (zn (xo ?_)))
 have e0:arB 16 (b0F first nonce)=arB 16 (bI first nonce n 15):=a0c fun q hq=>by unfold bI;rw[if_neg (by omega)]
 rw[e0]
 refine zi [(1,_),(6,_),(7,_)] (fun nn E H=> ∃(i:Nat) (v:Int),(i≤15∧nonce.length≤i)∧(v=n/256^ (15-i))∧i=nn∧E= [(2,.val (.int .i64 v)),(8,.val (.int .i64 (i:Int)))]∧H= [.blk B2 171 16 (arB 16 (bI first nonce n i)),.blk B1 171 16 (arB 16 fun _=>0)]) _ (⟨15,n,by omega,by simp,rfl,rfl,rfl⟩) ?_
 rintro nn E H ⟨i,v,hi,hv,rfl,rfl,rfl⟩
 dsimp only[cA,cN]
 have hv0:0≤v:=by rw[hv];exact Int.ediv_nonneg hn.1 (Int.pow_nonneg (by decide))
 have hv1:v≤n:=by rw[hv];exact Int.ediv_le_self _ hn.1
 refine zD (zD (zr ?_))
 refine zb ?_
 refine zb ?_
 refine zX ?_
 refine yZ ?_
 refine zb ?_
 refine yC ?_
 refine yB 19 ?_
 refine zW (zJ (zn ?_))
 refine yt (fun h=> ?_) (fun h=> ?_)<;>(try simp only[vT]at h)
 ·obtain⟨j,rfl⟩: ∃j,i=j+1:=⟨i-1,by omega⟩
  refine y6 (zn (zD (xo (zD (zr ?_)))))
  refine zb ?_
  refine zb ?_
  refine xg ?_
  refine wM ?_
  refine yO 0 rfl rfl rfl rfl rfl rfl (by rfl) (by rfl) (by exact Nat.ble_eq_true_of_le (by rw[a0b];omega)) (by exact a0P (k:=j+1) (by omega) _ (by omega)) (zJ (zn (zr ?_)))
  refine zb ?_
  refine vg ?_
  refine zc (zJ (xE (zn (zr ?_))))
  refine zb ?_
  refine yN ?_
  refine zc (zJ ?_)
  have e1:arB 16 (fun q=>if q=j+1 then u8 v else bI first nonce n (j+1) q)=arB 16 (bI first nonce n j):=a0c fun q _=>by
   rw[hv];exact u0k (by omega) (by omega) q
  rw[e1,show((j+1:Nat):Int)-1=(j:Int) by omega]
  have hv2:v/256=n/256^ (15-j):=by rw[hv,q0L];congr 2;omega
  refine zu _ _ _ (by omega) (⟨j,v/256,by omega,hv2,rfl,rfl,rfl⟩)
 have e2:arB 16 (bI first nonce n i)=arB 16 (c0m first nonce n):=a0c fun q hq=>v0T (by rw[←hv];omega) hn.1 hi.1 q hq
 rw[e2]
 refine wj ?_
 refine x8 ?_
 refine wd ?_
 refine xD (zn (zD (zr ?_)))
 refine xF ?_
 refine yg 1 (zJ (zn (xj ?_)))
 refine AQ.retCell (ys:=arB 16 (c0m first nonce n)) rfl rfl mM (List.take_of_length_le (Nat.le_of_eq (a0b _ _))) (a0b _ _) nS ⟨rfl,rfl⟩
def absorb (w:Nat→UInt8)(x:Nat→UInt8)(l:List UInt8):Nat→UInt8:=
 if h:l= []then x else absorb w (enc w fun q=>x q^^^kf l q) (l.drop 16)
termination_by l.length
decreasing_by
 have:0<l.length:=List.length_pos_iff.2 h
 simp;omega
theorem a0W (w x:Nat→UInt8):absorb w x []=x:=by rw[absorb,dif_pos rfl]
theorem b0i {w x:Nat→UInt8}{l:List UInt8}(h:l≠ []):absorb w x l=absorb w (enc w fun q=>x q^^^kf l q) (l.drop 16):=by rw[absorb,dif_neg h]
theorem i0m (l:List UInt8){q:Nat}(h:l.length≤q):kf l q=0:=by simp[kf,h]
theorem g0J (w:Nat→UInt8)(b:Nat)(x:Nat→UInt8)(l:List UInt8)(hl:l.length≤1000000):Sp Tryz.prog 198 [roB l,pt b,.rp [.rp (g0Z w) 0] 0] [.blk b 171 16 (arB 16 x)] (IsM (.agg (arB 16 (absorb w x l))) (.blk b 171 16 (arB 16 (absorb w x l)))):=by
 refine yX Tryz.func198 _ Tryz.ntmps198 (fun w0 R0=> ?_)
 refine zD (zr ?_)
 refine zd ?_
 intro B1
 refine zJ (zn (zD (xo ?_)))
 refine zi [(1,_),(2,_),(4,_)] (fun nn E H=> ∃(l':List UInt8) (x':Nat→UInt8),(absorb w x' l'=absorb w x l)∧(l'.length≤1000000)∧nn=l'.length∧E= [(0,roB l')]∧H= [.blk B1 171 16 (arB 16 fun _=>0),.blk b 171 16 (arB 16 x')]) _ (⟨l,x,rfl,hl,rfl,rfl,rfl⟩) ?_
 rintro nn E H ⟨l',x',hx,hl',rfl,rfl,rfl⟩
 dsimp only[cA,cN]
 refine zD (zD (zr ?_))
 refine zb ?_
 refine zX ?_
 refine yZ (zJ (zn ?_))
 refine yt (fun h=> ?_) (fun h=> ?_)<;>(try simp only[vT]at h)
 ·obtain⟨n,hn⟩: ∃n:Nat,n=min l'.length 16:=⟨_,rfl⟩
  have hmin:(if(16:Int)<(l'.length:Int)then(16:Int)else(l'.length:Int))=(n:Int):=by split<;>omega
  have hln:(l'.take n).length=n:=by rw[List.length_take];omega
  have hne:l'≠ []:=fun e=>by rw[e]at h;simp at h
  have hdr:l'.drop n=l'.drop 16:=by
   rcases Nat.lt_or_ge 16 l'.length with h1|h1
   ·rw[show n=16 by omega]
   rw[List.drop_eq_nil_of_le (by omega),List.drop_eq_nil_of_le (by omega)]
  refine y6 (zn (zD (xo (zD (zD (zr ?_))))))
  refine zb ?_
  refine zb ?_
  refine zX ?_
  refine vO (O.minI rfl rfl rfl hmin) ?_
  refine vO (O.sliceToB (k:=n) rfl rfl rfl (by rfl) (by omega)) ?_
  refine zX ?_
  refine zb (zJ (zn (xo ?_)))
  have e0:arB 16 x'=arB 16 (fun q=>if q<0 then x' q^^^kf l' q else x' q):=a0c fun q _=>(if_neg (by omega)).symm
  rw[e0]
  refine zi [(0,_),(1,_),(2,_),(4,_),(19,_),(20,_)] (fun nn E H=> ∃(i:Nat),(i≤n)∧nn=n-i∧E= [(21,.val (.int .i64 (i:Int)))]∧H= [.blk B1 171 16 (arB 16 fun _=>0),.blk b 171 16 (arB 16 fun q=>if q<i then x' q^^^kf l' q else x' q)]) _ (⟨0,by omega,rfl,rfl,rfl⟩) ?_
  rintro nn E H ⟨i,hi,rfl,rfl,rfl⟩
  dsimp only[cA,cN]
  refine zD (zr ?_)
  refine zT (zJ (zn (zD ?_)))
  refine yt (fun h2=> ?_) (fun h2=> ?_)<;>(try simp only[vT]at h2)
  ·have hi':i<n:=by omega
   have hget:(a0a (l'.take n))[Int.toNat (i:Int)*1]? =some (by8 (kf l' i)):=by
    rw[b0l (k:=i) (by omega) (by omega)]
    have:bt (l'.take n) i=kf l' i:=by
     have h3:i<l'.length:=by omega
     simp[bt,kf,List.getElem?_take,hi',h3]
    rw[this]
   refine y6 (zn (zD (xo (zD (zr ?_)))))
   refine zb ?_
   refine ye ?_
   refine vO (O.loadR rfl rfl (by exact hget)) ?_
   refine zc ?_
   refine zc (zJ (zn (zr ?_)))
   refine zb ?_
   refine wM ?_
   refine vO (O.load rfl rfl mM (by exact a0o (k:=i) (by omega) (by omega))) ?_
   refine zb ?_
   refine vE ?_
   refine wM ?_
   refine yO 1 rfl rfl rfl rfl rfl rfl (by rfl) (by rfl) (by exact Nat.ble_eq_true_of_le (by rw[a0b];omega)) (by exact a0P (k:=i) (by omega) _ (by omega)) (zJ (xE (zn (zr ?_))))
   refine zB ?_
   refine zb (zJ ?_)
   have e1:arB 16 (fun q=>if q=i then(if i<i then x' i^^^kf l' i else x' i)^^^kf l' i else if q<i then x' q^^^kf l' q else x' q)=arB 16 (fun q=>if q<i+1 then x' q^^^kf l' q else x' q):=a0c fun q _=>by
    rcases Nat.lt_trichotomy q i with h1|h1|h1
    ·rw[if_neg (by omega),if_pos h1,if_pos (by omega)]
    ·rw[if_pos h1,if_neg (by omega),if_pos (by omega),h1]
    rw[if_neg (by omega),if_neg (by omega),if_neg (by omega)]
   rw[e1]
   refine zu _ _ _ (by omega) (⟨i+1,by omega,rfl,rfl,rfl⟩)
  obtain rfl:i=n:=by omega
  have e2:arB 16 (fun q=>if q<i then x' q^^^kf l' q else x' q)=arB 16 (fun q=>x' q^^^kf l' q):=a0c fun q hq=>by
   by_cases h3:q<i
   ·rw[if_pos h3]
   rw[if_neg h3,i0m l' (by omega),s0B]
  rw[e2]
  refine wj ?_
  refine x8 ?_
  refine wd ?_
  refine xD (zn (zr ?_))
  refine vO (O.loadR rfl rfl (by rfl)) ?_
  refine vu ?_
  refine vO (xM rfl Tryz.func179 rfl rfl rfl (i0y w _)) ?_
  refine yg 1 (zJ (xE (zn (zr ?_))))
  refine zb ?_
  refine zb ?_
  refine zX ?_
  refine vO (O.minI rfl rfl rfl hmin) ?_
  refine vO (O.sliceFromB (k:=i) rfl rfl rfl (by rfl) (by omega)) ?_
  refine zc (zJ ?_)
  rw[hdr]
  refine zu _ _ _ (by rw[List.length_drop];omega) (⟨l'.drop 16,enc w fun q=>x' q^^^kf l' q,by rw[←b0i hne];exact hx,by rw[List.length_drop];omega,rfl,rfl,rfl⟩)
 obtain rfl:l'= []:=List.eq_nil_of_length_eq_zero (by omega)
 rw[a0W]at hx
 subst hx
 refine wj ?_
 refine x8 ?_
 refine wd ?_
 refine xD (zn (zD (zr ?_)))
 refine vu ?_
 refine yg 0 (zJ (zn (xj ?_)))
 refine AQ.retCell (ys:=arB 16 (absorb w x l)) rfl rfl (by repeat(exact List.Mem.head _)) (List.take_of_length_le (Nat.le_of_eq (a0b _ _))) (a0b _ _) ⟨_,List.Sublist.cons _ (List.Sublist.cons_cons _ List.Sublist.slnil),.refl _⟩ ⟨rfl,rfl⟩
abbrev w0p (w:Nat→UInt8)(b:Nat):AV:= .fn (.func 198) [pt b,.rp [.rp (g0Z w) 0] 0]
abbrev xB (b:Nat)(x:Nat→UInt8):HE:= .blk b 171 16 (arB 16 x)
theorem r0D (w:Nat→UInt8):Sp Tryz.prog 181 [.rp (g0Z w) 0] [] (fun v Hn=> ∃b,v=w0p w b∧Hn= [xB b fun _=>0]):=by
 refine yX Tryz.func181 _ Tryz.ntmps181 (fun w0 R0=> ?_)
 refine zD (zr ?_)
 refine yo ?_
 intro B1
 refine zc (zJ (zn (zD (zr ?_))))
 refine zd ?_
 intro B2
 refine zJ (zn (zD (zr ?_)))
 refine AO.g ?_
 refine G.freezePtr 1 1 rfl rfl ?_
 refine AO.u ?_
 dsimp only[List.eraseIdx]
 refine vO (O.fn rfl rfl) ?_
 refine zc (zJ (zn (xj ?_)))
 refine vz rfl rfl ⟨_,by repeat(first|exact List.Sublist.slnil|refine List.Sublist.cons_cons _ ?_),List.Perm.refl _⟩ (⟨B2,rfl,rfl⟩)
def k0D (aad nonce:List UInt8)(tag:Int):UInt8:=u8 (8*(tag/2-1)+14-(nonce.length:Int)+(if aad= []then 0 else 64))
def c0J (aad:List UInt8):List UInt8:=u8 ((aad.length:Int)/256)::u8 (aad.length:Int)::aad
def j0n (w:Nat→UInt8)(nonce aad plain:List UInt8)(tag:Int):Nat→UInt8:=
 absorb w (if aad= []then absorb w (fun _=>0) (fnB 16 (c0m (k0D aad nonce tag) nonce plain.length))else absorb w (absorb w (fun _=>0) (fnB 16 (c0m (k0D aad nonce tag) nonce plain.length))) (c0J aad)) plain
theorem p0M (f:Nat→UInt8):((arB 16 f).drop (0+0*1)).take ((16-0)*1)=arB 16 f:=by
 show((arB 16 f).drop 0).take 16=_
 rw[cO,List.take_of_length_le (Nat.le_of_eq (a0b _ _))]
theorem p0K (w:Nat→UInt8)(nonce aad plain:List UInt8)(tag:Int)(hn13:nonce.length≤13)(ht:4≤tag∧tag≤16)(ha:aad.length≤10000)(hp:plain.length≤10000):Sp Tryz.prog 159 [.rp (g0Z w) 0,roB nonce,roB aad,roB plain,.val (.int .i64 tag)] [] (Is (.agg (arB 16 (j0n w nonce aad plain tag)))):=by
 refine yX Tryz.func159 _ Tryz.ntmps159 (fun w0 R0=> ?_)
 refine zD (zr ?_)
 refine zd ?_
 intro B1
 refine zJ (zn (zD (zr ?_)))
 refine zb ?_
 refine AO.opN (xM rfl Tryz.func181 rfl rfl rfl (r0D w)) rfl rfl rfl ?_
 rintro _ _ ⟨B2,rfl,rfl⟩
 simp only[cA,cN]
 refine zc (zJ (zn (zD (zr ?_))))
 refine zb ?_
 refine wL ?_
 refine yN ?_
 refine wF ?_
 refine zB ?_
 refine zb ?_
 refine zX ?_
 refine yN ?_
 refine xg ?_
 refine zc (zJ (zn (zD (zD (zr ?_)))))
 refine zb ?_
 refine zX ?_
 refine yZ (zJ (zn ?_))
 obtain⟨z,hz⟩: ∃z,z=8*(tag/2-1)+14-(nonce.length:Int):=⟨_,rfl⟩
 have hzb:0≤z∧z≤127∧z+64≤255:=by omega
 rw[←hz]
 refine xR True [(1,_),(2,_),(3,_),(10,_),(11,_)] [(12,by8 (k0D aad nonce tag))] [xB B2 (fun _=>0),xB B1 (fun _=>0)] (fun h27=> ?_) (fun h27=> ?_) (fun hj=> ?_)<;>try(try simp only[vT]at h27)
 ·have e:u8 (((u8 z).toNat:Int)+64)=k0D aad nonce tag:=by
   have hne:aad≠ []:=fun e=>by rw[e]at h27;simp at h27
   rw[k0D,if_neg hne,←hz,c0r]
   congr 1;omega
  refine zr ?_
  refine zb ?_
  refine vO (O.add rfl rfl rfl (by exact d0m)) ?_
  refine zc (zJ ?_)
  rw[e]
  refine yl
 ·have e:u8 z=k0D aad nonce tag:=by
   have hne:aad= []:=List.eq_nil_of_length_eq_zero (by omega)
   rw[k0D,if_pos hne,←hz,Int.add_zero]
  refine y6 ?_
  rw[e]
  refine yl
 dsimp only[cA,cN]
 refine zn ?_
 obtain⟨x1,hx1⟩: ∃x1,x1=absorb w (fun _=>0) (fnB 16 (c0m (k0D aad nonce tag) nonce plain.length)):=⟨_,rfl⟩
 have hc1:=g0J w B2 (fun _=>0) (fnB 16 (c0m (k0D aad nonce tag) nonce plain.length)) (by rw[a0L];omega)
 rw[←hx1]at hc1
 have hc2:=g0J w B2 x1 (c0J aad) (by simp only[c0J,cL];omega)
 obtain⟨x2,hx2⟩: ∃x2,x2=if aad= []then x1 else absorb w x1 (c0J aad):=⟨_,rfl⟩
 have hc3:=g0J w B2 x2 plain (by omega)
 refine zD (zr ?_)
 refine zb ?_
 refine zb ?_
 refine zb ?_
 refine zX ?_
 refine vO (xM rfl Tryz.func180 rfl rfl rfl (g0N _ nonce _ hn13 ⟨by omega,by omega⟩)) ?_
 refine zd ?_
 intro B3
 refine xi 0 ?_
 refine AO.g ?_
 refine G.freezePtr 0 13 rfl rfl ?_
 refine AO.u ?_
 dsimp only[List.eraseIdx]
 refine zJ (zn (zD (zr ?_)))
 refine zb ?_
 refine vO (O.sliceArrRK (p:=0) rfl rfl rfl rfl (by rfl) (by rfl) ⟨by omega,by omega⟩ (by omega) (by(unfold maxLen;omega)) (by exact p0M _)) ?_
 refine AO.callMV1 (i:=0) rfl rfl rfl Tryz.func198 rfl rfl rfl rfl rfl rfl hc1 (by(dsimp only[List.set,cA,cN,List.take,List.drop];done)) (zJ (zn (zD (zD (zr ?_)))))
 refine zb ?_
 refine zX ?_
 refine yZ (zJ (zn ?_))
 refine xR True [(3,_),(10,_),(11,_)] [] [xB B2 x2,xB B1 (fun _=>0)] (fun h40=> ?_) (fun h40=> ?_) (fun hj=> ?_)<;>try(try simp only[vT]at h40)
 ·have hne:aad≠ []:=fun e=>by rw[e]at h40;simp at h40
  have e2:absorb w x1 (c0J aad)=x2:=by rw[hx2,if_neg hne]
  have er:roB (c0J aad)=AV.ro false (2+aad.length) (AV.val (.int .u8 ((u8 ((aad.length:Int)/256)).toNat:Int))::AV.val (.int .u8 ((u8 (aad.length:Int)).toNat:Int))::a0a aad):=(b0u (by simp only[c0J,cL];omega) rfl).symm
  rw[e2,er]at hc2
  refine zr ?_
  refine zb ?_
  refine zb ?_
  refine zX ?_
  refine vg ?_
  refine xg ?_
  refine zb ?_
  refine zX ?_
  refine xg ?_
  refine xy ?_
  intro B4
  refine AO.g ?_
  refine xT B4 2 2 0 rfl rfl rfl (Nat.le_refl _) ?_
  refine AO.u ?_
  dsimp only[List.set]
  refine zb ?_
  refine zF 0 ?_
  intro V5 hV5
  refine AO.g ?_
  refine yQ 0 [51] ?_
  refine AO.u ?_
  dsimp only[List.map,List.eraseIdx,cA,cN]
  refine AO.callMV1 (i:=0) rfl rfl rfl Tryz.func198 rfl rfl rfl rfl rfl rfl hc2 (by(dsimp only[List.set,cA,cN,List.take,List.drop];done)) (zJ ?_)
  refine vc
 ·have hne:aad= []:=List.eq_nil_of_length_eq_zero (by omega)
  have e2:x1=x2:=by rw[hx2,if_pos hne]
  refine y6 ?_
  rw[e2]
  refine wU
 dsimp only[cA,cN]
 refine zn ?_
 have hm:j0n w nonce aad plain tag=absorb w x2 plain:=by rw[j0n,hx2,hx1]
 refine zD (zr ?_)
 refine zb ?_
 refine zb ?_
 refine AO.callMV1 (i:=0) rfl rfl rfl Tryz.func198 rfl rfl rfl rfl rfl rfl hc3 (by(dsimp only[List.set,cA,cN,List.take,List.drop];done)) ?_
 refine yg 1 (zJ (zn (xj ?_)))
 refine AQ.retCell (ys:=arB 16 (absorb w x2 plain)) rfl rfl mM (List.take_of_length_le (Nat.le_of_eq (a0b _ _))) (a0b _ _) nS ⟨by rw[hm],rfl⟩
end Go.Proofs.YtojomcdjcpmnkaaGreat.By
namespace Go.Proofs.YtojomcdjcpmnkaaGreat.A
open Go.RowKit L
section
variable {Γ:Cx}{P:Program}{E:Env}{H:List HE}
theorem AQ.ret2G {fn:Func}{Post:AV→List HE→Prop}{x y:ResultVar}{p q:AV}{H':List HE}(hr:fn.results= #[x,y])(h1:ResAt Γ P E H x p)(h2:ResAt Γ P E H y q)
  (hH: ∃H1,H1.Sublist H∧H'.Perm H1) (hp:Post (.tup [p,q]) H'):AQ Γ (FnQ Γ P fn Post) .ret E H:=fun R a W hs ha=>by
 obtain⟨H1,k1,k2⟩:=hH
 obtain⟨u1,e1,g1⟩:=h1 R a W hs ha
 obtain⟨u2,e2,g2⟩:=h2 R a W hs ha
 refine⟨ha.defers,.tuple #[u1,u2],?_,_,_,H',R,rfl,hp,?_,RelL.toTup (us:= [u1,u2]) (RelL.cons g1 (RelL.cons g2 RelL.nil))⟩
 ·rw[e0V,hr]
  simp[e1,e2]
 have:=(hs.sub k1).perm k2
 exact⟨this.mods,this.rlt,this.rsub,this.rnew,this.ok,this.own,this.disj⟩
end
end Go.Proofs.YtojomcdjcpmnkaaGreat.A
namespace Go.Proofs.YtojomcdjcpmnkaaGreat.By
open Go.RowKit L A
set_option linter.unusedVariables false
set_option maxRecDepth 20000
set_option linter.unusedSimpArgs false
attribute [local irreducible] AW AQ AO
theorem p0B (l:List UInt8)(hl:l.length≤1000000):Sp Tryz.prog 138 [roB l] [] (b0p 5 1 l.length (arB l.length (kf l))):=by
 refine yX Tryz.func138 _ Tryz.ntmps138 (fun w0 R0=> ?_)
 refine zD (zr ?_)
 refine zc (zJ (zn (zD (zD (zr ?_)))))
 refine zb ?_
 refine AO.opN (O.eqlNil rfl rfl rfl) rfl rfl rfl ?_
 rintro _ _ ⟨c1,rfl,rfl,hnil1⟩
 simp only[cA,cN]
 refine zJ (zn ?_)
 refine yt (fun h=> ?_) (fun h=> ?_)
 ·obtain rfl:l= []:=List.eq_nil_of_length_eq_zero (by exact hnil1 (by simp[h]))
  refine zD (zr ?_)
  refine zc (zJ (zn (xj (xx ?_))))
  refine AQ.g ?_
  refine G.nilRow 5 1 ?_
  refine AQ.u ?_
  refine vz rfl rfl ⟨_,by repeat(first|exact List.Sublist.slnil|refine List.Sublist.cons_cons _ ?_),List.Perm.refl _⟩ (⟨_,rfl,rfl,rfl⟩)
 refine y6 (zn (zD (zr ?_)))
 refine vR (O.buildSlice0 rfl) ?_
 intro V2 hV2
 refine zb ?_
 refine zF 0 ?_
 intro V3 hV3
 refine zc (zJ (zn (xj ?_)))
 rw[Nat.zero_add,f0t]
 refine vz rfl rfl ⟨_,by repeat(first|exact List.Sublist.slnil|refine List.Sublist.cons_cons _ ?_),List.Perm.refl _⟩ (⟨V3,rfl,hV3,rfl⟩)
def e0N (w:Nat→UInt8)(nonce text:List UInt8)(i:Nat):UInt8:=kf text i^^^enc w (c0m (u8 (14-(nonce.length:Int))) nonce (((i/16:Nat):Int)+1)) (i%16)
def n0t (w:Nat→UInt8)(nonce text:List UInt8)(k i:Nat):UInt8:=if i<k then e0N w nonce text i else kf text i
def e0I (w:Nat→UInt8)(nonce:List UInt8)(tg:Nat→UInt8)(q:Nat):UInt8:=tg q^^^enc w (c0m (u8 (14-(nonce.length:Int))) nonce 0) q
theorem n0L (w:Nat→UInt8)(nonce text:List UInt8)(i:Nat):n0t w nonce text 0 i=kf text i:=if_neg (by omega)
set_option maxHeartbeats 8000000 in
theorem i0K (w:Nat→UInt8)(nonce text:List UInt8)(tg:Nat→UInt8)(hn13:nonce.length≤13)(hp:text.length≤1000000):Sp Tryz.prog 158 [.rp (g0Z w) 0,roB nonce,roB text,.agg (arB 16 tg)] []
  (fun r Hn=> ∃V:Value,V.oneCell'=true∧r= .tup [.val V,.agg (arB 16 (e0I w nonce tg))]∧Hn= [.row V 5 1 text.length (arB text.length (e0N w nonce text))]):=by
 refine yX Tryz.func158 _ Tryz.ntmps158 (fun w0 R0=> ?_)
 refine zD (zr ?_)
 refine yo ?_
 intro B1
 refine zc ?_
 refine zd ?_
 intro B2
 refine zJ (zn (zD (zr ?_)))
 refine zb ?_
 refine vR (xM rfl Tryz.func138 rfl rfl rfl (p0B _ hp)) ?_
 intro V3 hV3
 refine zc (zJ (zn (zD (zr ?_))))
 refine zb ?_
 refine zX ?_
 refine yN ?_
 refine xg ?_
 refine zc (zJ (zn (zD (zD (zr ?_)))))
 refine zc (zJ (zn (xo ?_)))
 obtain⟨n,hn⟩: ∃n,n=text.length:=⟨_,rfl⟩
 rw[←hn]
 have e0:arB n (kf text)=arB n (n0t w nonce text 0):=a0c fun q _=>(n0L w nonce text q).symm
 rw[e0]
 refine zi [(0,_),(1,_),(7,_),(9,_),(11,_)] (fun nn E H=> ∃(j:Nat) (V:Value),(16*j<n+16)∧(V.oneCell'=true)∧nn=n+16-16*j∧E= [(10,.val V),(12,.val (.int .i64 ((16*j:Nat):Int)))]∧H= [.row V 5 1 n (arB n (n0t w nonce text (16*j))),.blk B2 171 16 (arB 16 fun _=>0),.blk B1 171 16 (arB 16 tg)]) _ (⟨0,V3,by omega,hV3,rfl,rfl,rfl⟩) ?_
 rintro nn E H ⟨j,V,hj,hV,rfl,rfl,rfl⟩
 dsimp only[cA,cN]
 refine zD (zD (zr ?_))
 refine zb ?_
 refine zb ?_
 refine wu ?_
 refine zT (zJ (zn ?_))
 refine yt (fun h=> ?_) (fun h=> ?_)<;>(try simp only[vT]at h)
 ·have hj':16*j<n:=by omega
  obtain⟨m,hm⟩: ∃m:Nat,m=min n (16*j+16):=⟨_,rfl⟩
  have hmin:(if((16*j:Nat):Int)+16<(n:Int)then((16*j:Nat):Int)+16 else(n:Int))=(m:Int):=by split<;>omega
  have hq:((16*j:Nat):Int)/16+1=(j:Int)+1:=by omega
  refine AW.g ?_
  refine G.openRow 0 rfl (by omega) (fun b' cap hc1 hc2 hxs hVe=> ?_)
  refine AW.u ?_
  subst hVe
  dsimp only[List.set]
  refine y6 (zn (zD (xo (zD (zr ?_)))))
  refine zb ?_
  refine zb ?_
  refine zb ?_
  refine zb ?_
  refine wL ?_
  refine zB ?_
  refine vO (xM rfl Tryz.func180 rfl rfl rfl (g0N _ nonce _ hn13 ⟨by omega,by omega⟩)) ?_
  refine vO (xM rfl Tryz.func179 rfl rfl rfl (i0y w _)) ?_
  refine zd ?_
  intro B4
  refine xi 0 (zJ (zn (zD (zr ?_))))
  refine zb ?_
  refine zc (zJ (zn (xo ?_)))
  rw[hq]
  obtain⟨z,hz⟩: ∃z,z=enc w (c0m (u8 (14-(nonce.length:Int))) nonce ((j:Int)+1)):=⟨_,rfl⟩
  rw[←hz]
  refine zi [(0,_),(1,_),(7,_),(9,_),(10,_),(11,_),(12,_),(13,_)] (fun nn E H=> ∃(k:Nat),(16*j≤k∧k≤m)∧nn=m-k∧E= [(14,.val (.int .i64 (k:Int)))]∧H= [.blk B4 171 16 (arB 16 z),.blk b' 5 (cap*1) (arB n (n0t w nonce text k)),.blk B2 171 16 (arB 16 fun _=>0),.blk B1 171 16 (arB 16 tg)]) _ (⟨16*j,by omega,rfl,rfl,rfl⟩) ?_
  rintro nn E H ⟨k,hk,rfl,rfl,rfl⟩
  dsimp only[cA,cN]
  refine zD (zD (zr ?_))
  refine zb ?_
  refine zb ?_
  refine vO (O.lenV rfl rfl) ?_
  refine zb ?_
  refine zB ?_
  refine vO (O.minI rfl rfl rfl hmin) ?_
  refine zT (zJ (zn ?_))
  refine yt (fun h2=> ?_) (fun h2=> ?_)<;>(try simp only[vT]at h2)
  ·have hk':k<m:=by omega
   refine y6 (zn (zD (xo ?_)))
   refine yA 11 ?_
   simp only[cT,cZ,cD,cO]
   refine zH ?_
   refine zH ?_
   refine wW ?_
   refine vP (O.load rfl rfl mM (by exact a0o (k:=k) (by omega) (by omega))) ?_
   refine zH ?_
   refine zH ?_
   refine xX ?_
   refine yY ?_
   refine vP (O.load rfl rfl (by repeat(exact List.Mem.head _)) (by exact a0o (k:=k-16*j) (by omega) (by omega))) ?_
   refine wq ?_
   refine wW ?_
   refine vb ?_
   simp only[a0h,cN,cA,cP]
   refine yO 1 rfl rfl rfl rfl rfl rfl (by rfl) (by rfl) (by exact Nat.ble_eq_true_of_le (by rw[a0b];omega)) (by exact a0P (k:=k) (by omega) _ (by omega)) (zJ (xE (zn (zr ?_))))
   refine zb ?_
   refine zB ?_
   refine zc (zJ ?_)
   have e1:arB n (fun q=>if q=k then n0t w nonce text k k^^^z (k-16*j)else n0t w nonce text k q)=arB n (n0t w nonce text (k+1)):=a0c fun q _=>by
    unfold n0t
    rcases Nat.lt_trichotomy q k with h1|h1|h1
    ·rw[if_neg (by omega),if_pos h1,if_pos (by omega)]
    ·rw[if_pos h1,if_neg (by omega),if_pos (by omega),h1,e0N,hz,show k/16=j by omega,show k%16=k-16*j by omega]
    rw[if_neg (by omega),if_neg (by omega),if_neg (by omega)]
   rw[e1]
   refine zu _ _ _ (by omega) (⟨k+1,by omega,rfl,rfl,rfl⟩)
  obtain rfl:k=m:=by omega
  refine wj ?_
  refine x8 ?_
  refine wd ?_
  refine xD (xE (zn (zr ?_)))
  refine zb ?_
  refine zB ?_
  refine zc (zJ ?_)
  have e1:arB n (n0t w nonce text k)=arB n (n0t w nonce text (16*(j+1))):=a0c fun q hq=>by
   unfold n0t
   by_cases h1:q<k
   ·rw[if_pos h1,if_pos (by omega)]
   rw[if_neg h1,if_neg (by omega)]
  rw[e1]
  refine AQ.g ?_
  refine G.closeRow (b:=b') 1 rfl (by rw[a0b,Nat.mul_one]) rfl hc1 hc2 ?_
  refine AQ.u ?_
  dsimp only[List.set]
  have e2:((16*j:Nat):Int)+16=((16*(j+1):Nat):Int):=by omega
  rw[e2]
  refine zL _ _ _ (by omega) (⟨j+1,_,by omega,hV,rfl,rfl,rfl⟩)
 have e1:arB n (n0t w nonce text (16*j))=arB n (e0N w nonce text):=a0c fun q hq=>if_pos (by omega)
 rw[e1]
 refine wj ?_
 refine x8 ?_
 refine wd ?_
 refine xD (zn (zD (zr ?_)))
 refine zb ?_
 refine zb ?_
 refine zb ?_
 refine vO (xM rfl Tryz.func180 rfl rfl rfl (g0N _ nonce _ hn13 ⟨by omega,by omega⟩)) ?_
 refine vO (xM rfl Tryz.func179 rfl rfl rfl (i0y w _)) ?_
 refine zd ?_
 intro B5
 refine xi 0 (zJ (zn (zD (zD (zr ?_)))))
 refine zb (zJ (zn (xo ?_)))
 have e2:arB 16 tg=arB 16 (fun q=>if q<0 then e0I w nonce tg q else tg q):=a0c fun q _=>(if_neg (by omega)).symm
 rw[e2]
 obtain⟨z,hz⟩: ∃z,z=enc w (c0m (u8 (14-(nonce.length:Int))) nonce 0):=⟨_,rfl⟩
 rw[←hz]
 refine zi [(7,_),(9,_),(10,_),(15,_)] (fun nn E H=> ∃(i:Nat),(i≤16)∧nn=16-i∧E= [(63,.val (.int .i64 (i:Int)))]∧H= [.blk B5 171 16 (arB 16 z),.row V 5 1 n (arB n (e0N w nonce text)),.blk B2 171 16 (arB 16 fun _=>0),.blk B1 171 16 (arB 16 (fun q=>if q<i then e0I w nonce tg q else tg q))]) _ (⟨0,by omega,rfl,rfl,rfl⟩) ?_
 rintro nn E H ⟨i,hi,rfl,rfl,rfl⟩
 dsimp only[cA,cN]
 refine zD (zr ?_)
 refine zT (zJ (zn (zD ?_)))
 refine yt (fun h3=> ?_) (fun h3=> ?_)<;>(try simp only[vT]at h3)
 ·have hi':i<16:=by omega
  refine y6 (zn (zD (xo (zD (zr ?_)))))
  refine zb ?_
  refine zc (zJ (zn ?_))
  refine yA 8 ?_
  simp only[cT,cZ,cD,cO]
  refine zH ?_
  refine yY ?_
  refine vP (O.load rfl rfl mM (by exact a0o (k:=i) (by omega) (by omega))) ?_
  refine zH ?_
  refine yY ?_
  refine vP (O.load rfl rfl (by repeat(exact List.Mem.head _)) (by exact a0o (k:=i) (by omega) (by omega))) ?_
  refine wq ?_
  refine yY ?_
  refine vb ?_
  simp only[a0h,cN,cA,cP]
  refine yO 3 rfl rfl rfl rfl rfl rfl (by rfl) (by rfl) (by exact Nat.ble_eq_true_of_le (by rw[a0b];omega)) (by exact a0P (k:=i) (by omega) _ (by omega)) (zJ (xE (zn (zr ?_))))
  refine zB ?_
  refine zb (zJ ?_)
  have e3:arB 16 (fun q=>if q=i then(if i<i then e0I w nonce tg i else tg i)^^^z i else if q<i then e0I w nonce tg q else tg q)=arB 16 (fun q=>if q<i+1 then e0I w nonce tg q else tg q):=a0c fun q _=>by
   rcases Nat.lt_trichotomy q i with h1|h1|h1
   ·rw[if_neg (by omega),if_pos h1,if_pos (by omega)]
   ·rw[if_pos h1,if_neg (by omega),if_pos (by omega),h1,e0I,hz]
   rw[if_neg (by omega),if_neg (by omega),if_neg (by omega)]
  rw[e3]
  refine zu _ _ _ (by omega) (⟨i+1,by omega,rfl,rfl,rfl⟩)
 obtain rfl:i=16:=by omega
 have e3:arB 16 (fun q=>if q<16 then e0I w nonce tg q else tg q)=arB 16 (e0I w nonce tg):=a0c fun q hq=>if_pos hq
 rw[e3]
 refine wj ?_
 refine x8 ?_
 refine wd ?_
 refine xD (zn (zD ?_))
 refine yA 3 ?_
 simp only[cT,cZ,cD,cO]
 refine zH ?_
 refine vP (O.loadK rfl rfl mM (by exact p0M _) (by exact a0b _ _)) ?_
 refine vB ?_
 refine vb ?_
 simp only[a0h,cN,cA,cP]
 refine AO.store (i:=2) rfl rfl rfl rfl rfl rfl (by exact d0z _ _) (by exact a0b _ _) (by exact Nat.ble_eq_true_of_le (Nat.le_of_eq (a0b _ _).symm)) (by exact b0K rfl) (by(dsimp only[List.set,cA,cN,List.take,List.drop];done)) (zJ (zn (xj ?_)))
 rw[hn]
 refine AQ.ret2G rfl (ResAt.tmp rfl) (ResAt.cell (ys:=arB 16 (e0I w nonce tg)) rfl mM (List.take_of_length_le (Nat.le_of_eq (a0b _ _))) (a0b _ _)) ⟨_,List.Sublist.cons _ (List.Sublist.cons_cons _ (List.nil_sublist _)),.refl _⟩ ⟨V,hV,rfl,rfl⟩
end Go.Proofs.YtojomcdjcpmnkaaGreat.By
namespace Go.Proofs.YtojomcdjcpmnkaaGreat.By
open Go.RowKit L A
attribute [local irreducible] AW AQ AO
attribute [local simp] a0b
abbrev wK (key:List UInt8):Nat→UInt8:=wS (kf key)
def c0s (aad plain:List UInt8):Bool:=decide ((aad.length:Int)≤4096)&&decide ((plain.length:Int)≤4096)
def e0Q (key nonce aad plain:List UInt8)(tag:Int):List UInt8:=
 if cvB key nonce tag&&c0s aad plain then fnB plain.length (e0N (wK key) nonce plain)++fnB tag.toNat (e0I (wK key) nonce (j0n (wK key) nonce aad plain tag))else []
def d0R (key nonce aad plain:List UInt8)(tag:Int):Int:=
 if cvB key nonce tag then(if c0s aad plain then 0 else 8)else 1
theorem l0n {key nonce aad plain:List UInt8}{tag:Int}(h:cvB key nonce tag=false):e0Q key nonce aad plain tag= []∧d0R key nonce aad plain tag=1:=by
 simp[e0Q,d0R,h]
theorem i0N {key nonce aad plain:List UInt8}{tag:Int}(h:cvB key nonce tag=true)(h2:c0s aad plain=false):e0Q key nonce aad plain tag= []∧d0R key nonce aad plain tag=8:=by
 simp[e0Q,d0R,h,h2]
theorem d0o {key nonce aad plain:List UInt8}{tag:Int}(h:cvB key nonce tag=true)(h2:c0s aad plain=true):e0Q key nonce aad plain tag=fnB plain.length (e0N (wK key) nonce plain)++fnB tag.toNat (e0I (wK key) nonce (j0n (wK key) nonce aad plain tag))∧d0R key nonce aad plain tag=0:=by
 simp[e0Q,d0R,h,h2]
theorem r0F {T:Nat}(h:T≤16)(f:Nat→UInt8):((arB 16 f).drop (0+0*1)).take ((T-0)*1)=arB T f:=by
 rw[show(T-0)*1=T by omega]
 have:=h0F (n:=16) (f:=f) (j:=0+0*1) (k:=T) (by omega)
 rw[this]
 exact a0c fun q _=>by rw[show 0+0*1+q=q by omega]
theorem l0u (n T:Nat)(f g:Nat→UInt8):AV.ro false (n+(T-0)) (arB n f++arB T g)=roB (fnB n f++fnB T g):=by
 unfold roB
 rw[cH,a0L,a0L,Nat.sub_zero]
 show _=AV.ro false (n+T) (a0a (fnB n f++fnB T g))
 rw[a0a,List.map_append];rfl
theorem s0T (key nonce aad plain:List UInt8)(tag:Int)(ha:aad.length≤1000000)(hp:plain.length≤1000000):Sp Tryz.prog 116 [roB key,roB nonce,roB aad,roB plain,.val (.int .i64 tag)] [] (Is (.tup [roB (e0Q key nonce aad plain tag),.val (.int .i64 (d0R key nonce aad plain tag))])):=by
 refine yX Tryz.func116 _ Tryz.ntmps116 (fun w0 R0=> ?_)
 refine zD (zr ?_)
 refine zc ?_
 refine zc (zJ (zn (zD (xo (zD (zr ?_))))))
 refine zb ?_
 refine zb ?_
 refine zb ?_
 refine vO (xM rfl Tryz.func156 rfl rfl rfl (m0c key nonce _)) ?_
 refine xu ?_
 refine zc (zJ (zn ?_))
 refine yt (fun h=> ?_) (fun h=> ?_)<;>(try simp only[vT]at h)
 ·have hb:cvB key nonce tag=false:=by simpa using h
  obtain⟨e1,e2⟩:=l0n (aad:=aad) (plain:=plain) hb
  rw[e1,e2]
  refine zD (zr ?_)
  refine zc ?_
  refine zc (zJ (zn (xj ?_)))
  refine ww (xx ?_)
  refine wa yV yv (⟨rfl,rfl⟩)
 obtain⟨hk,hn7,hn13,ht4,ht16,ht2⟩:=m0a h
 refine zD (zr ?_)
 refine zb ?_
 refine zX ?_
 refine yZ ?_
 refine zb ?_
 refine yC ?_
 refine yb 26 ?_
 refine yB 27 ?_
 refine zI ?_
 refine zc (zJ (zn ?_))
 refine yt (fun h2=> ?_) (fun h2=> ?_)<;>(try simp only[vT]at h2)
 ·have hb:c0s aad plain=false:=by
   simp only[c0s,Bool.and_eq_false_iff,decide_eq_false_iff_not]
   omega
  obtain⟨e1,e2⟩:=i0N h hb
  rw[e1,e2]
  refine zD (zr ?_)
  refine zc ?_
  refine zc (zJ (zn (xj ?_)))
  refine ww (xx ?_)
  refine wa yV yv (⟨rfl,rfl⟩)
 have hb:c0s aad plain=true:=by
  simp only[c0s,Bool.and_eq_true,cQ]
  omega
 obtain⟨e1,e2⟩:=d0o h hb
 rw[e1,e2]
 obtain⟨T,hT⟩: ∃T:Nat,T=tag.toNat:=⟨_,rfl⟩
 rw[←hT]
 have hT':tag=(T:Int):=by omega
 have ha':aad.length≤10000:=by omega
 have hp':plain.length≤10000:=by omega
 refine AW.g ?_
 refine G.re 0 (.ro false 16 (arB 16 (kf key))) (congrArg some (i0Q hk)) ?_
 refine AW.u (y6 (xE (zn (zD (zr ?_)))))
 refine zb ?_
 refine AO.opB (xM rfl Tryz.func157 rfl rfl rfl (j0O _)) rfl rfl rfl ?_
 intro B1
 refine zc ?_
 refine AO.g ?_
 refine G.freezePtr 0 12 rfl rfl ?_
 refine AO.u ?_
 dsimp only[List.eraseIdx]
 refine zJ (zn (zD (zr ?_)))
 refine zb ?_
 refine zb ?_
 refine zb ?_
 refine zb ?_
 refine zb ?_
 refine zb ?_
 refine zb ?_
 refine zb ?_
 refine vO (xM rfl Tryz.func159 rfl rfl rfl (p0K _ nonce aad plain tag hn13 ⟨ht4,ht16⟩ ha' hp')) ?_
 refine AO.opN (xM rfl Tryz.func158 rfl rfl rfl (i0K _ nonce plain _ hn13 (by omega))) rfl rfl rfl ?_
 rintro _ _ ⟨V442,hV442,rfl,rfl⟩
 simp only[cA,cN]
 refine zb ?_
 refine zK ?_
 refine zK ?_
 refine zd ?_
 intro B3
 refine zc ?_
 refine xi 0 ?_
 refine AO.g ?_
 refine G.freezePtr 0 14 rfl rfl ?_
 refine AO.u ?_
 dsimp only[List.eraseIdx]
 refine zJ (zn (zD (zr ?_)))
 refine zb ?_
 refine zb ?_
 refine vO (O.sliceArrRK (p:=0) (q:=T) rfl rfl rfl rfl (by rfl) (by omega) ⟨by omega,by omega⟩ (by omega) (by(unfold maxLen;omega)) (by exact r0F (by omega) _)) ?_
 refine AO.append' (i:=0) rfl rfl rfl rfl (by rfl) (by rfl) rfl rfl rfl (by exact SrcA.ro TyD.ax (by(simp;done)) (lB rfl)) (by exact d0z _ _) (by(unfold maxLen;omega)) (by omega) (by(dsimp only[List.set,cA,cN,List.take,List.drop];done)) (fun _=>by(dsimp only[List.set];done)) ?_
 intro V4 hV4
 refine AO.g ?_
 refine yQ 0 [48] ?_
 refine AO.u ?_
 dsimp only[List.map,List.eraseIdx,cA,cN]
 refine zc ?_
 refine zc (zJ (zn (xj ?_)))
 refine AQ.g ?_
 refine G.re 10 (roB (fnB plain.length (e0N (wK key) nonce plain)++fnB T (e0I (wK key) nonce (j0n (wK key) nonce aad plain tag)))) (congrArg some (l0u _ T _ _)) ?_
 refine AQ.u ?_
 refine wa yV yR (⟨rfl,rfl⟩)
theorem p0G {first:UInt8}{nonce:List UInt8}{n:Int}{q:Nat}(hq:nonce.length<q)(h8:7<15-(q:Int))(hn:0≤n∧n≤9223372036854775807):(0:UInt8)=c0m first nonce n q:=by
 rw[c0m,if_neg (by omega),if_neg (by omega)]
 have h1:(256:Int)^8≤256^ (15-q):=by
  obtain⟨d,hd⟩: ∃d,15-q=8+d:=⟨15-q-8,by omega⟩
  rw[hd,Int.pow_add]
  have:(1:Int)≤256^d:=Int.pow_pos (by decide)
  have h2:(0:Int)≤256^8:=by decide
  calc (256:Int)^8=256^8*1:=(Int.mul_one _).symm
   _≤256^8*256^d:=Int.mul_le_mul_of_nonneg_left this h2
 have h3:n<256^ (15-q):=by
  have:(9223372036854775807:Int)<256^8:=by decide
  omega
 rw[Int.ediv_eq_zero_of_lt hn.1 h3];rfl
theorem p0F {first:UInt8}{nonce:List UInt8}{n:Int}{q:Nat}(hq:nonce.length<q)(hq2:q≤15)(h8:15-(q:Int)≤7):u8 (n.fdiv (2^min (8*(15-(q:Int))).toNat IntKind.i64.bits))=c0m first nonce n q:=by
 rw[c0m,if_neg (by omega),if_neg (by omega)]
 have e: ∃i:Nat,i≤7∧15-q=i∧15-(q:Int)=i:=⟨15-q,by omega,rfl,by omega⟩
 obtain⟨i,hi,e1,e2⟩:=e
 rw[e1,e2]
 have e3:min (8*(i:Int)).toNat IntKind.i64.bits=8*i:=by
  show min (8*(i:Int)).toNat 64=_
  omega
 rw[e3,Int.fdiv_eq_ediv_of_nonneg _ (Int.le_of_lt (Int.pow_pos (by decide))),Int.pow_mul];rfl
theorem n0b (first:Int)(nonce:List UInt8)(n:Int)(hn13:nonce.length≤13)(hn:0≤n∧n≤9223372036854775807):Sp Tryz.prog 187 [.val (.int .i64 first),roB nonce,.val (.int .i64 n)] [] (Is (roB (fnB 16 (c0m (u8 first) nonce n)))):=by
 refine yX Tryz.func187 _ Tryz.ntmps187 (fun w0 R0=> ?_)
 refine zD (zr ?_)
 refine zc (zJ (zn (zD (zr ?_))))
 refine zb ?_
 refine xg ?_
 refine zR ?_
 intro B1
 refine AO.g ?_
 refine xT B1 1 1 0 rfl rfl rfl (Nat.le_refl _) ?_
 refine AO.u ?_
 dsimp only[List.set]
 refine zb ?_
 refine yP 0 ?_
 intro V2 hV2
 refine zc (zJ (zn (zD (zD (zr ?_)))))
 refine zb ?_
 refine zX ?_
 refine yN ?_
 refine zc (zJ (zn (xo ?_)))
 obtain⟨L,hL⟩: ∃L,L=nonce.length:=⟨_,rfl⟩
 rw[←hL]at hn13
 have e0:AV.val (.int .u8 ((u8 first).toNat:Int))::a0a nonce=arB (1+L) (c0m (u8 first) nonce n):=by
  rw[hL,f0t]
  show arB 1 (fun _=>u8 first)++arB nonce.length (kf nonce)=_
  rw[k0W]
  exact a0c fun q hq=>by
   by_cases h:q<1
   ·rw[if_pos h,c0m,if_pos (by omega)]
   rw[if_neg h,c0m,if_neg (by omega),if_pos (by omega)]
 have ez:nonce.length=L:=hL.symm
 have ey:14-(L:Int)=15-((1+L:Nat):Int):=by omega
 rw[ez,e0,ey]
 refine zi [(2,_)] (fun nn E H=> ∃(q:Nat) (V:Value),(1+L≤q∧q≤16)∧(V.oneCell'=true)∧nn=16-q∧E= [(7,.val V),(8,.val (.int .i64 (15-(q:Int))))]∧H= [.row V 5 1 q (arB q (c0m (u8 first) nonce n))]) _ (⟨1+L,V2,by omega,hV2,rfl,rfl,rfl⟩) ?_
 rintro nn E H ⟨q,V,hq,hV,rfl,rfl,rfl⟩
 dsimp only[cA,cN]
 have ex:15-(q:Int)-1=15-((q+1:Nat):Int):=by omega
 refine zD (zD (zr ?_))
 refine zb ?_
 refine wX (zJ (zn ?_))
 refine yt (fun h=> ?_) (fun h=> ?_)<;>(try simp only[vT]at h)
 ·have hq':q<16:=by omega
  refine y6 (zn (zD (xo (zD (zD (zr ?_))))))
  refine zb ?_
  refine yZ (zJ (zn ?_))
  refine yt (fun h2=> ?_) (fun h2=> ?_)<;>(try simp only[vT]at h2)
  ·refine zD (zr ?_)
   refine zb ?_
   refine zR ?_
   intro B3
   refine AO.g ?_
   refine yi 0 24 ?_
   refine wm 24 ?_
   refine AO.u ?_
   dsimp only[List.eraseIdx]
   refine yq 0 ?_
   intro V4 hV4
   refine zc (zJ (zn ?_))
   refine wj ?_
   refine x8 ?_
   refine xD (zn (zr ?_))
   refine zb ?_
   refine yN ?_
   refine zc (zJ ?_)
   rw[show arB q (c0m (u8 first) nonce n)++[AV.val (.int .u8 0)]=arB (q+1) (c0m (u8 first) nonce n)from c0w (p0G (by omega) h2 hn),ex]
   refine zu _ _ _ (by omega) (⟨q+1,V4,by omega,hV4,rfl,rfl,rfl⟩)
  refine y6 (zn (zr ?_))
  refine zb ?_
  refine zb ?_
  refine zb ?_
  refine wg ?_
  refine vO (O.mul rfl rfl rfl (by exact q0g (by omega))) ?_
  refine vO (O.shr rfl rfl rfl (by omega) rfl) ?_
  refine xg ?_
  refine zR ?_
  intro B5
  refine AO.g ?_
  refine yi 0 33 ?_
  refine wm 33 ?_
  refine AO.u ?_
  dsimp only[List.eraseIdx]
  refine yq 0 ?_
  intro V6 hV6
  refine zc (zJ (xE (zn (zr ?_))))
  refine zb ?_
  refine yN ?_
  refine zc (zJ ?_)
  rw[show arB q (c0m (u8 first) nonce n)++[AV.val (.int .u8 ((u8 (n.fdiv (2^min (8*(15-(q:Int))).toNat IntKind.i64.bits))).toNat:Int))]=arB (q+1) (c0m (u8 first) nonce n)from c0w (p0F (by omega) (by omega) h2),ex]
  refine zu _ _ _ (by omega) (⟨q+1,V6,by omega,hV6,rfl,rfl,rfl⟩)
 obtain rfl:q=16:=by omega
 refine wj ?_
 refine x8 ?_
 refine wd ?_
 refine xD (zn (zD (zr ?_)))
 refine zb ?_
 refine zc (zJ (zn (xj ?_)))
 refine AQ.g ?_
 refine yf 0 [6] ?_
 refine AQ.u ?_
 try dsimp only[List.map,List.eraseIdx,cA,cN]
 refine AQ.g ?_
 refine G.re 6 (roB (fnB 16 (c0m (u8 first) nonce n))) (congrArg some (b0L _ _).symm) ?_
 refine AQ.u ?_
 refine yM
theorem k0L (first:Int)(nonce:List UInt8)(n:Int)(hn13:nonce.length≤13)(hn:0≤n∧n≤9223372036854775807):Sp Tryz.prog 187 [.val (.int .i64 first),roB nonce,.val (.int .i64 n)] [] (b0p 5 1 16 (arB 16 (c0m (u8 first) nonce n))):=by
 refine yX Tryz.func187 _ Tryz.ntmps187 (fun w0 R0=> ?_)
 refine zD (zr ?_)
 refine zc (zJ (zn (zD (zr ?_))))
 refine zb ?_
 refine xg ?_
 refine zR ?_
 intro B1
 refine AO.g ?_
 refine xT B1 1 1 0 rfl rfl rfl (Nat.le_refl _) ?_
 refine AO.u ?_
 dsimp only[List.set]
 refine zb ?_
 refine yP 0 ?_
 intro V2 hV2
 refine zc (zJ (zn (zD (zD (zr ?_)))))
 refine zb ?_
 refine zX ?_
 refine yN ?_
 refine zc (zJ (zn (xo ?_)))
 obtain⟨L,hL⟩: ∃L,L=nonce.length:=⟨_,rfl⟩
 rw[←hL]at hn13
 have e0:AV.val (.int .u8 ((u8 first).toNat:Int))::a0a nonce=arB (1+L) (c0m (u8 first) nonce n):=by
  rw[hL,f0t]
  show arB 1 (fun _=>u8 first)++arB nonce.length (kf nonce)=_
  rw[k0W]
  exact a0c fun q hq=>by
   by_cases h:q<1
   ·rw[if_pos h,c0m,if_pos (by omega)]
   rw[if_neg h,c0m,if_neg (by omega),if_pos (by omega)]
 have ez:nonce.length=L:=hL.symm
 have ey:14-(L:Int)=15-((1+L:Nat):Int):=by omega
 rw[ez,e0,ey]
 refine zi [(2,_)] (fun nn E H=> ∃(q:Nat) (V:Value),(1+L≤q∧q≤16)∧(V.oneCell'=true)∧nn=16-q∧E= [(7,.val V),(8,.val (.int .i64 (15-(q:Int))))]∧H= [.row V 5 1 q (arB q (c0m (u8 first) nonce n))]) _ (⟨1+L,V2,by omega,hV2,rfl,rfl,rfl⟩) ?_
 rintro nn E H ⟨q,V,hq,hV,rfl,rfl,rfl⟩
 dsimp only[cA,cN]
 have ex:15-(q:Int)-1=15-((q+1:Nat):Int):=by omega
 refine zD (zD (zr ?_))
 refine zb ?_
 refine wX (zJ (zn ?_))
 refine yt (fun h=> ?_) (fun h=> ?_)<;>(try simp only[vT]at h)
 ·have hq':q<16:=by omega
  refine y6 (zn (zD (xo (zD (zD (zr ?_))))))
  refine zb ?_
  refine yZ (zJ (zn ?_))
  refine yt (fun h2=> ?_) (fun h2=> ?_)<;>(try simp only[vT]at h2)
  ·refine zD (zr ?_)
   refine zb ?_
   refine zR ?_
   intro B3
   refine AO.g ?_
   refine yi 0 24 ?_
   refine wm 24 ?_
   refine AO.u ?_
   dsimp only[List.eraseIdx]
   refine yq 0 ?_
   intro V4 hV4
   refine zc (zJ (zn ?_))
   refine wj ?_
   refine x8 ?_
   refine xD (zn (zr ?_))
   refine zb ?_
   refine yN ?_
   refine zc (zJ ?_)
   rw[show arB q (c0m (u8 first) nonce n)++[AV.val (.int .u8 0)]=arB (q+1) (c0m (u8 first) nonce n)from c0w (p0G (by omega) h2 hn),ex]
   refine zu _ _ _ (by omega) (⟨q+1,V4,by omega,hV4,rfl,rfl,rfl⟩)
  refine y6 (zn (zr ?_))
  refine zb ?_
  refine zb ?_
  refine zb ?_
  refine wg ?_
  refine vO (O.mul rfl rfl rfl (by exact q0g (by omega))) ?_
  refine vO (O.shr rfl rfl rfl (by omega) rfl) ?_
  refine xg ?_
  refine zR ?_
  intro B5
  refine AO.g ?_
  refine yi 0 33 ?_
  refine wm 33 ?_
  refine AO.u ?_
  dsimp only[List.eraseIdx]
  refine yq 0 ?_
  intro V6 hV6
  refine zc (zJ (xE (zn (zr ?_))))
  refine zb ?_
  refine yN ?_
  refine zc (zJ ?_)
  rw[show arB q (c0m (u8 first) nonce n)++[AV.val (.int .u8 ((u8 (n.fdiv (2^min (8*(15-(q:Int))).toNat IntKind.i64.bits))).toNat:Int))]=arB (q+1) (c0m (u8 first) nonce n)from c0w (p0F (by omega) (by omega) h2),ex]
  refine zu _ _ _ (by omega) (⟨q+1,V6,by omega,hV6,rfl,rfl,rfl⟩)
 obtain rfl:q=16:=by omega
 refine wj ?_
 refine x8 ?_
 refine wd ?_
 refine xD (zn (zD (zr ?_)))
 refine zb ?_
 refine zc (zJ (zn (xj ?_)))
 refine vz rfl rfl ⟨_,by repeat(first|exact List.Sublist.slnil|refine List.Sublist.cons_cons _ ?_),List.Perm.refl _⟩ (⟨_,rfl,hV,rfl⟩)
def e0k (n:Nat):Nat:=(n+15)/16*16
theorem j0b (b:List UInt8)(hl:b.length≤1000000):Sp Tryz.prog 188 [roB b] [] (Is (roB (fnB (e0k b.length) (kf b)))):=by
 refine yX Tryz.func188 _ Tryz.ntmps188 (fun w0 R0=> ?_)
 refine zD (zr ?_)
 refine zc (zJ (zn (zD (zr ?_))))
 refine zb ?_
 refine yH ?_
 intro V1 hV1
 refine zc (zJ (zn (zD (xo ?_))))
 rw[f0t]
 refine AW.loopK [] (fun nn E H=> ∃(m:Nat) (V:Value),(b.length≤m∧m≤e0k b.length)∧(V.oneCell'=true)∧nn=e0k b.length-m∧E= [(3,.val V)]∧H= [.row V 5 1 m (arB m (kf b))]) _ (⟨b.length,V1,⟨Nat.le_refl _,by unfold e0k;omega⟩,hV1,rfl,rfl,rfl⟩) (by repeat(exact a0l)) (by repeat(first|exact a0l|refine a0j rfl ?_)) (by repeat(first|exact a0H|refine a0B 0 rfl ?_)) ?_
 rintro nn E H ⟨m,V,hm,hV,rfl,rfl,rfl⟩
 dsimp only[cA,cN]
 have hpn:e0k b.length=(b.length+15)/16*16:=rfl
 refine zD (zD (zr ?_))
 refine zb ?_
 refine wu ?_
 refine wn ?_
 refine y2 (zJ (zn ?_))
 refine yt (fun h=> ?_) (fun h=> ?_)<;>(try simp only[vT]at h)
 ·have hm':m<e0k b.length:=by omega
  refine y6 (zn (xo (zr ?_)))
  refine zb ?_
  refine zR ?_
  intro B2
  refine AO.g ?_
  refine yi 0 11 ?_
  refine wm 11 ?_
  refine AO.u ?_
  dsimp only[List.eraseIdx]
  refine yq 0 ?_
  intro V3 hV3
  refine zc (zJ (xE ?_))
  rw[show arB m (kf b)++[AV.val (.int .u8 0)]=arB (m+1) (kf b)from c0w (i0m b hm.1).symm]
  refine AQ.loopKN _ _ _ (by omega) (⟨m+1,V3,by omega,hV3,rfl,rfl,rfl⟩) (by repeat(exact a0l)) (by repeat(first|exact a0l|refine a0j rfl ?_)) (by repeat(first|exact a0H|refine a0B 0 rfl ?_))
 have hm':m=e0k b.length:=by omega
 subst hm'
 refine wj ?_
 refine x8 ?_
 refine wd ?_
 refine xD (zn (zD (zr ?_)))
 refine zb ?_
 refine zc (zJ (zn (xj ?_)))
 refine AQ.g ?_
 refine yf 0 [2] ?_
 refine AQ.u ?_
 try dsimp only[List.map,List.eraseIdx,cA,cN]
 refine AQ.g ?_
 refine G.re 2 (roB (fnB (e0k b.length) (kf b))) (congrArg some (b0L _ _).symm) ?_
 refine AQ.u ?_
 refine yM
end Go.Proofs.YtojomcdjcpmnkaaGreat.By
namespace Go.Proofs.YtojomcdjcpmnkaaGreat.By
open Go.RowKit L A
attribute [local irreducible] AW AQ AO
abbrev s0y (w f:Nat→UInt8):AV→List HE→Prop:=fun r Hn=> ∃V:Value,V.oneCell'=true∧r= .tup [.val V,.val (.int .i64 0)]∧Hn= [.row V 5 1 16 (arB 16 (enc w f))]
theorem j0z (w f:Nat→UInt8):p0Y (s0y w f):=by
 rintro r Hn ⟨V,_,rfl,rfl⟩
 refine⟨fun R R' W u h=>h.plainT (fun x hx=> ?_),fun e he R R' W h=> ?_⟩
 ·simp only[List.mem_cons,List.not_mem_nil,or_false]at hx
  rcases hx with rfl|rfl<;>exact⟨_,rfl⟩
 obtain rfl:e=_:=List.mem_singleton.1 he
 exact HE.plainRow (l0c _ _) h
theorem q0E (key:List UInt8)(f:Nat→UInt8)(hk:key.length=16):Sp Tryz.prog 186 [roB key,.ro false 16 (arB 16 f)] [] (s0y (wS (kf key)) f):=by
 refine yX Tryz.func186 _ Tryz.ntmps186 (fun w0 R0=> ?_)
 refine zD (zr ?_)
 refine zc ?_
 refine zc (zJ (zn (zD (zD (zr ?_)))))
 refine zb ?_
 refine zX ?_
 refine vO (O.neq rfl rfl rfl (by exact bne_eq_false_iff_eq.2 (by omega))) ?_
 refine zb ?_
 refine yC ?_
 refine yb 17 ?_
 refine AO.opG rfl rfl rfl (fun hp=>ve 18 rfl (by exact hp) (O.neq rfl rfl rfl (by exact bne_eq_false_iff_eq.2 (by omega)))) ?_
 refine zI (zJ (zn ?_))
 refine yt (fun h=> ?_) (fun h=> ?_)<;>(try simp only[vT]at h)
 ·exact absurd h (by simp[hk])
 refine AW.g ?_
 refine G.re 0 (.ro false 16 (arB 16 (kf key))) (congrArg some (i0Q hk)) ?_
 refine AW.u ?_
 obtain⟨w,hwd⟩: ∃w,w=wS (kf key):=⟨_,rfl⟩
 have hs0:(arB 176 (wS (kf key))).take (16*1)=arB 16 (fun q=>w (0*16+q)):=by
  have:=h0F (n:=176) (f:=w) (j:=0) (k:=16) (by omega)
  rw[hwd]at this⊢
  simpa using this
 have hseg: ∀r,r<11→((arB 176 w).drop (16*r*1)).take (16*1)=arB 16 fun q=>w (r*16+q):=fun r hr=>by
  rw[show 16*r*1=r*16 by omega];exact h0F (by omega)
 refine y6 (zn (zD (zr ?_)))
 refine vO (xM rfl Tryz.func199 rfl rfl rfl l0p) ?_
 refine wz ?_
 intro B1
 refine yg 0 (zJ (zn (zD (zr ?_))))
 refine zb ?_
 refine xF ?_
 refine vO (xM rfl Tryz.func200 rfl rfl rfl (i0P _)) ?_
 refine zc (zJ (zn (zD ?_)))
 refine yA 7 ?_
 simp only[cT,cZ,cD,cO]
 refine zH ?_
 refine vP (O.toArr rfl rfl (by omega) (by omega)) ?_
 refine vP (O.loadRK rfl rfl (by exact List.take_of_length_le (Nat.le_of_eq (a0b _ _))) (by exact a0b _ _)) ?_
 refine zH ?_
 refine vP (O.sliceTo (k:=16) rfl rfl rfl (by rfl) (by omega) (by exact hs0)) ?_
 refine vP (xM rfl Tryz.func201 rfl rfl rfl (e0R _ _)) ?_
 refine yS ?_
 refine vb ?_
 simp only[a0h,cN,cA,cP]
 rintro _ _ ⟨B2,rfl,rfl⟩
 simp only[cA,cN]
 refine xi 0 (zJ (zn (zD (zD (zr ?_)))))
 refine zc (zJ (zn (xo ?_)))
 rw[←hwd]
 refine zi [(6,_),(7,_),(8,_)] (fun nn E H=> ∃(j:Nat),(j≤10)∧nn=10-j∧E= [(9,.val (.int .i64 ((j+1:Nat):Int)))]∧H= [a0F B2 (d0U w f j),.blk B1 181 256 (arB 256 RB)]) _ (⟨0,by omega,rfl,rfl,rfl⟩) ?_
 rintro nn E H ⟨j,hj,rfl,rfl,rfl⟩
 dsimp only[cA,cN]
 refine zD (zD (zr ?_))
 refine zb ?_
 refine vO wI (zJ (zn ?_))
 refine yt (fun hj1=> ?_) (fun hj1=> ?_)<;>(try simp only[vT]at hj1)
 ·obtain⟨g,hg⟩: ∃g,g=d0U w f j:=⟨_,rfl⟩
  have hst: ∀q,d0U w f (j+1) q=(if j+1<10 then f0w (shF sb 1 g) g0q else shF sb 1 g) q^^^w ((j+1)*16+q):=fun q=>by rw[d0U,hg]
  rw[←hg]
  refine y6 (zn (zD (xo (zD (zr ?_)))))
  refine zd ?_
  intro B3
  refine zJ (zn (zD (zD (zr ?_))))
  refine zb (zJ (zn (xo ?_)))
  have e0:a0F B3 (fun _=>0)=a0F B3 (fun q=>if q<4*0+0 then shF sb 1 g q else 0):=b0x fun q _=>(if_neg (by omega)).symm
  refine zi [(6,_),(7,_),(8,_),(9,_),(10,_)] (fun nn E H=> ∃(c:Nat),(c≤4)∧nn=4-c∧E= [(35,.val (.int .i64 (c:Int)))]∧H= [a0F B3 (fun q=>if q<4*c+0 then shF sb 1 g q else 0),a0F B2 g,.blk B1 181 256 (arB 256 RB)]) _ (⟨0,by omega,rfl,rfl,congrArg (fun x=> [x,a0F B2 g,.blk B1 181 256 (arB 256 RB)]) e0⟩) ?_
  rintro nn E H ⟨c,hc,rfl,rfl,rfl⟩
  dsimp only[cA,cN]
  refine zD (zr ?_)
  refine zT (zJ (zn (zD ?_)))
  refine yt (fun hc4=> ?_) (fun hc4=> ?_)<;>(try simp only[vT]at hc4)
  ·refine y6 (zn (zD (xo (zD (zr ?_)))))
   refine zb ?_
   refine zc (zJ (zn (zD (zr ?_))))
   refine zb (zJ (zn (xo ?_)))
   refine zi [(6,_),(7,_),(8,_),(9,_),(10,_),(11,_),(35,_)] (fun nn E H=> ∃(r:Nat),(r≤4)∧nn=4-r∧E= [(38,.val (.int .i64 (r:Int)))]∧H= [a0F B3 (fun q=>if q<4*c+r then shF sb 1 g q else 0),a0F B2 g,.blk B1 181 256 (arB 256 RB)]) _ (⟨0,by omega,rfl,rfl,rfl⟩) ?_
   rintro nn E H ⟨r,hr,rfl,rfl,rfl⟩
   dsimp only[cA,cN]
   refine zD (zr ?_)
   refine zT (zJ (zn (zD ?_)))
   refine yt (fun hr4=> ?_) (fun hr4=> ?_)<;>(try simp only[vT]at hr4)
   ·have hr':r<4:=by omega
    have hix:(0+(4*(((c:Int)+(r:Int))%4)+(r:Int)).toNat*1)=r+4*((c+r)%4):=by
     have hi:(4*(((c:Int)+(r:Int))%4)+(r:Int))=((r+4*((c+r)%4):Nat):Int):=by push_cast;omega
     rw[hi,Int.toNat_natCast];omega
    have hgb:(arB 16 g)[0+(4*(((c:Int)+(r:Int))%4)+(r:Int)).toNat*1]? =some (by8 (g (r+4*((c+r)%4)))):=by rw[hix];exact a0o (by omega) rfl
    have hsh:shF sb 1 g (4*c+r)=sb (g (r+4*((c+r)%4))):=by
     rw[shF,show(4*c+r)%4=r by omega,show(4*c+r)/4=c by omega,Nat.one_mul]
    refine y6 (zn (zD (xo (zD (zr ?_)))))
    refine zb ?_
    refine zc (zJ (zn (zr ?_)))
    refine zb ?_
    refine wF ?_
    refine zb ?_
    refine zB ?_
    refine zb ?_
    refine zb ?_
    refine zB ?_
    refine wn ?_
    refine wF ?_
    refine zb ?_
    refine zB ?_
    refine xV ?_
    refine vO (O.load rfl rfl mM (by exact hgb)) ?_
    refine vO (O.idxL rfl rfl rfl (by exact n0I _)) ?_
    refine vO wN ?_
    refine xV ?_
    refine yO 0 rfl rfl rfl rfl rfl rfl (by rfl) (by rfl) (by exact Nat.ble_eq_true_of_le (by rw[a0b];omega)) (by exact a0P (k:=4*c+r) (by omega) _ (by omega)) (zJ (xE (zn (zr ?_))))
    refine zB ?_
    refine zb (zJ ?_)
    have e:a0F B3 (fun q=>if q=4*c+r then sb (g (r+4*((c+r)%4)))else if q<4*c+r then shF sb 1 g q else 0)=a0F B3 (fun q=>if q<4*c+(r+1)then shF sb 1 g q else 0):=b0x fun q _=>by
     rw[←hsh]
     rcases Nat.lt_trichotomy q (4*c+r)with h1|h1|h1
     ·rw[if_neg (by omega),if_pos h1,if_pos (by omega)]
     ·rw[if_pos h1,if_pos (by omega),h1]
     rw[if_neg (by omega),if_neg (by omega),if_neg (by omega)]
    refine zu _ _ _ (by omega) (⟨r+1,by omega,rfl,rfl,congrArg (fun x=> [x,a0F B2 g,.blk B1 181 256 (arB 256 RB)]) e⟩)
   obtain rfl:r=4:=by omega
   refine wj ?_
   refine x8 ?_
   refine wd ?_
   refine xD (xE (zn (zr ?_)))
   refine zB ?_
   refine zb (zJ ?_)
   refine zu _ _ _ (by omega) (⟨c+1,by omega,rfl,rfl,rfl⟩)
  obtain rfl:c=4:=by omega
  have e:a0F B3 (fun q=>if q<4*4+0 then shF sb 1 g q else 0)=a0F B3 (shF sb 1 g):=b0x fun q hq=>if_pos hq
  rw[e]
  refine wj ?_
  refine x8 ?_
  refine wd ?_
  refine xD (zn (zD (zD (zr ?_))))
  refine zb ?_
  refine zT (zJ (zn ?_))
  refine yt (fun h10=> ?_) (fun h10=> ?_)<;>(try simp only[vT]at h10)
  ·refine zr ?_
   refine xF ?_
   refine zP ?_
   refine vO (xM rfl Tryz.func202 rfl rfl rfl (o0f _ g0q)) ?_
   refine yg 0 (zJ (zn ?_))
   refine yA 9 ?_
   simp only[cT,cZ,cD,cO]
   refine vD ?_
   refine zH ?_
   refine zH ?_
   refine xv ?_
   refine zH ?_
   refine xv ?_
   refine xm ?_
   refine vP (O.sliceLHm (m:=16) rfl rfl rfl rfl (l:=16*(j+1)) (h:=16*(j+1)+16) (by omega) (by omega) (by omega) (by omega) (by omega) (by exact hseg (j+1) (by omega))) ?_
   refine vP (xM rfl Tryz.func201 rfl rfl rfl (e0R _ _)) ?_
   refine vb ?_
   simp only[a0h,cN,cA,cP]
   refine yg 1 (zJ (xE (zn (zr ?_))))
   refine zb ?_
   refine zB ?_
   refine zc (zJ ?_)
   have e2:a0F B2 (fun q=>f0w (shF sb 1 g) g0q q^^^w ((j+1)*16+q))=a0F B2 (d0U w f (j+1)):=b0x fun q _=>by rw[hst,if_pos (by omega)]
   refine zL _ _ _ (by omega) (⟨j+1,by omega,rfl,rfl,congrArg (fun x=> [x,.blk B1 181 256 (arB 256 RB)]) e2⟩)
  refine y6 (zn ?_)
  refine yA 9 ?_
  simp only[cT,cZ,cD,cO]
  refine vD ?_
  refine zH ?_
  refine zH ?_
  refine xv ?_
  refine zH ?_
  refine xv ?_
  refine xm ?_
  refine vP (O.sliceLHm (m:=16) rfl rfl rfl rfl (l:=16*(j+1)) (h:=16*(j+1)+16) (by omega) (by omega) (by omega) (by omega) (by omega) (by exact hseg (j+1) (by omega))) ?_
  refine vP (xM rfl Tryz.func201 rfl rfl rfl (e0R _ _)) ?_
  refine vb ?_
  simp only[a0h,cN,cA,cP]
  refine yg 1 (zJ (xE (zn (zr ?_))))
  refine zb ?_
  refine zB ?_
  refine zc (zJ ?_)
  have e2:a0F B2 (fun q=>shF sb 1 g q^^^w ((j+1)*16+q))=a0F B2 (d0U w f (j+1)):=b0x fun q _=>by rw[hst,if_neg (by omega)]
  refine zL _ _ _ (by omega) (⟨j+1,by omega,rfl,rfl,congrArg (fun x=> [x,.blk B1 181 256 (arB 256 RB)]) e2⟩)
 obtain rfl:j=10:=by omega
 refine wj ?_
 refine x8 ?_
 refine wd ?_
 refine xD (zn (zD (zr ?_)))
 refine vO (O.sliceArrK (p:=0) rfl rfl rfl rfl (by rfl) (by rfl) ⟨by omega,by omega⟩ (by omega)) ?_
 refine vR (O.appendNil rfl (by rfl) (by rfl) rfl rfl (by exact SrcA.blk TyD.ax (by repeat(exact List.Mem.head _)) (by(dsimp only[List.set,cA,cN,List.take,List.drop];done)) (by rfl)) (by rfl) (by(unfold maxLen;omega)) (by omega)) ?_
 intro V4 hV4
 refine zc ?_
 refine zc (zJ (zn (xj ?_)))
 have em:List.take ((16-0)*1) (arB 16 (d0U w f 10))=arB 16 (enc w f):=by
  show List.take 16 (arB 16 (d0U w f 10))=_
  rw[List.take_of_length_le (Nat.le_of_eq (a0b _ _))];rfl
 rw[em]
 refine AQ.ret2G rfl (ResAt.tmp rfl) (ResAt.tmp rfl) ⟨_,List.Sublist.cons_cons _ (List.nil_sublist _),.refl _⟩ ⟨V4,hV4,rfl,rfl⟩
attribute [local simp] a0b
theorem c0y {w:Nat→UInt8}: ∀(n:Nat) (l:List UInt8) (x y:Nat→UInt8),l.length≤n→(∀q,q<16→x q=y q)→ ∀q,q<16→absorb w x l q=absorb w y l q
 |0,l,x,y,hl,h,q,hq=>by
  obtain rfl:l= []:=List.eq_nil_of_length_eq_zero (by omega)
  rw[a0W,a0W];exact h q hq
 |n+1,l,x,y,hl,h,q,hq=>by
  by_cases e:l= []
  ·subst e;rw[a0W,a0W];exact h q hq
  rw[b0i e,b0i e]
  have h0:0<l.length:=List.length_pos_iff.2 e
  exact c0y n _ _ _ (by rw[List.length_drop];omega) (g0B fun q hq=>by rw[h q hq]) q hq
theorem f0k {w:Nat→UInt8}: ∀(n:Nat) (A B:List UInt8) (x:Nat→UInt8),A.length≤n→A.length%16=0→ ∀q,q<16→absorb w x (A++B) q=absorb w (absorb w x A) B q
 |0,A,B,x,hl,h,q,hq=>by
  obtain rfl:A= []:=List.eq_nil_of_length_eq_zero (by omega)
  rw[a0W,cN]
 | n+1,A,B,x,hl,h,q,hq=>by
  by_cases e:A= []
  ·subst e;rw[a0W,cN]
  have h0:0<A.length:=List.length_pos_iff.2 e
  rw[b0i e,b0i (by simp[e]),List.drop_append_of_le_length (by omega)]
  rw[c0y _ _ _ (enc w fun q=>x q^^^kf A q) (Nat.le_refl _) (g0B fun q hq=>by
   have:kf (A++B) q=kf A q:=by simp only[kf,List.getD_eq_getElem?_getD];rw[List.getElem?_append_left (by omega)]
   rw[this]) q hq]
  exact f0k n _ B _ (by rw[List.length_drop];omega) (by rw[List.length_drop];omega) q hq
theorem v0v (l:List UInt8)(N:Nat)(h:l.length≤N):kf (fnB N (kf l))=kf l:=by
 funext q
 by_cases e:q<N
 ·exact j0q e
 rw[i0m _ (by rw[a0L];omega),i0m _ (by omega)]
theorem t0s (n:Nat):n≤e0k n:=by unfold e0k;omega
theorem f0j {w:Nat→UInt8}: ∀(n:Nat) (l:List UInt8) (x:Nat→UInt8),l.length≤n→absorb w x (fnB (e0k l.length) (kf l))=absorb w x l
 |0,l,x,hl=>by
  obtain rfl:l= []:=List.eq_nil_of_length_eq_zero (by omega)
  rfl
 | n+1,l,x,hl=>by
  by_cases e:l= []
  ·subst e;rfl
  have h0:0<l.length:=List.length_pos_iff.2 e
  have h1:=t0s l.length
  have e2:fnB (e0k l.length) (kf l)≠ []:=fun h=>by
   have:=congrArg List.length h
   rw[a0L]at this;simp at this;omega
  have e3:(fnB (e0k l.length) (kf l)).drop 16=fnB (e0k (l.drop 16).length) (kf (l.drop 16)):=by
   have hp:e0k (l.drop 16).length=e0k l.length-16:=by rw[List.length_drop];unfold e0k;omega
   rw[hp]
   apply List.ext_getElem
   ·rw[List.length_drop,a0L,a0L]
   intro q h2 h3
   rw[List.getElem_drop]
   rw[a0L]at h3
   have g: ∀(N:Nat) (f:Nat→UInt8) (q:Nat) (h:q<(fnB N f).length),(fnB N f)[q]=f q:=fun N f q h=>by simp[fnB]
   rw[g,g]
   simp[kf,List.getElem?_drop]
  rw[b0i e2,b0i e,v0v _ _ h1,e3]
  exact f0j n _ _ (by rw[List.length_drop];omega)
def j0o (aad:List UInt8):List UInt8:=if aad= []then []else fnB (e0k (c0J aad).length) (kf (c0J aad))
def r0h (nonce aad plain:List UInt8)(tag:Int):List UInt8:=fnB 16 (c0m (k0D aad nonce tag) nonce plain.length)++j0o aad++fnB (e0k plain.length) (kf plain)
theorem l0C (n:Nat):e0k n%16=0:=by unfold e0k;omega
theorem l0P (aad:List UInt8):(j0o aad).length%16=0:=by
 unfold j0o;split
 ·rfl
 rw[a0L];exact l0C _
theorem r0g {w:Nat→UInt8}(nonce aad plain:List UInt8)(tag:Int): ∀q,q<16→absorb w (fun _=>0) (r0h nonce aad plain tag) q=j0n w nonce aad plain tag q:=fun q hq=>by
 rw[r0h,f0k _ _ _ _ (Nat.le_refl _) (by rw[cH,a0L];have:=l0P aad;omega) q hq,f0j _ _ _ (Nat.le_refl _),j0n]
 refine c0y _ _ _ _ (Nat.le_refl _) (fun q hq=> ?_) q hq
 rw[f0k _ _ _ _ (Nat.le_refl _) (by rw[a0L]) q hq]
 by_cases e:aad= []
 ·rw[if_pos e,j0o,if_pos e,a0W]
 rw[if_neg e,j0o,if_neg e,f0j _ _ _ (Nat.le_refl _)]
theorem r0f (nonce aad plain:List UInt8)(tag:Int):(r0h nonce aad plain tag).length=16+(j0o aad).length+e0k plain.length:=by
 rw[r0h,cH,cH,a0L,a0L]
theorem v0t (key nonce aad plain:List UInt8)(tag:Int)(hk:key.length=16)(hn13:nonce.length≤13)(ht:4≤tag∧tag≤16)(ha:aad.length≤10000)(hp:plain.length≤10000):Sp Tryz.prog 171 [roB key,roB nonce,roB aad,roB plain,.val (.int .i64 tag)] [] (Is (roB (fnB 16 (j0n (wS (kf key)) nonce aad plain tag)))):=by
 refine yX Tryz.func171 _ Tryz.ntmps171 (fun w0 R0=> ?_)
 refine zD (zr ?_)
 refine zc (zJ (zn (zD (zr ?_))))
 refine zb ?_
 refine wL ?_
 refine yN ?_
 refine wF ?_
 refine zB ?_
 refine zb ?_
 refine zX ?_
 refine yN ?_
 refine zc (zJ (zn (zD (zr ?_))))
 refine zc (zJ (zn (zD (zD (zr ?_)))))
 refine zb ?_
 refine zX ?_
 refine yZ (zJ (zn ?_))
 obtain⟨z,hz⟩: ∃z,z=8*(tag/2-1)+14-(nonce.length:Int):=⟨_,rfl⟩
 have hzb:0≤z∧z≤127∧z+64≤255:=by omega
 rw[←hz]
 refine xR True [(0,_),(1,_),(3,_)] [(11,.val (.int .i64 (z+if aad= []then 0 else 64))),(12,roB (j0o aad))] [] (fun h26=> ?_) (fun h26=> ?_) (fun hj=> ?_)<;>try(try simp only[vT]at h26)
 ·have hne:aad≠ []:=fun e=>by rw[e]at h26;simp at h26
  have hpl:=j0b (c0J aad) (by simp only[c0J,cL];omega)
  have em:fnB (e0k (c0J aad).length) (kf (c0J aad))=j0o aad:=by rw[j0o,if_neg hne]
  have er:roB (c0J aad)=AV.ro false (2+aad.length) (AV.val (.int .u8 ((u8 ((aad.length:Int)/256)).toNat:Int))::AV.val (.int .u8 ((u8 (aad.length:Int)).toNat:Int))::a0a aad):=(b0u (by simp only[c0J,cL];omega) rfl).symm
  rw[em,er]at hpl
  refine zD (zr ?_)
  refine zb ?_
  refine zB ?_
  refine zc (zJ (zn (zr ?_)))
  refine zb ?_
  refine zX ?_
  refine vg ?_
  refine xg ?_
  refine zb ?_
  refine zX ?_
  refine xg ?_
  refine xy ?_
  intro B1
  refine AO.g ?_
  refine xT B1 2 2 0 rfl rfl rfl (Nat.le_refl _) ?_
  refine AO.u ?_
  dsimp only[List.set]
  refine zb ?_
  refine zF 0 ?_
  intro V2 hV2
  refine AO.g ?_
  refine yQ 0 [38] ?_
  refine AO.u ?_
  dsimp only[List.map,List.eraseIdx,cA,cN]
  refine vO (xM rfl Tryz.func188 rfl rfl rfl hpl) ?_
  refine zc (zJ ?_)
  have e11:z+64=z+(if aad= []then 0 else 64):=by rw[if_neg hne]
  rw[e11]
  refine AQ.midK0 trivial (by repeat(first|exact a0l|refine a0j rfl ?_)) (by repeat(exact a0H))
 ·have hne:aad= []:=List.eq_nil_of_length_eq_zero (by omega)
  have e11:z+(if aad= []then 0 else 64)=z:=by rw[if_pos hne,Int.add_zero]
  have e12:roB (j0o aad)= .ro false 0 []:=by rw[j0o,if_pos hne];rfl
  rw[e11,e12]
  refine y6 ?_
  refine AQ.g ?_
  refine G.nilRo 12 rfl ?_
  refine AQ.u ?_
  refine AQ.midK trivial (by repeat(first|exact a0l|refine a0j rfl ?_)) (by repeat(first|exact a0l|refine a0j rfl ?_)) (by repeat(exact a0H))
 dsimp only[cA,cN]
 refine zn ?_
 have hal:(j0o aad).length≤10020:=by
  unfold j0o;split
  ·simp
  rw[a0L,c0J,cL,cL];unfold e0k;omega
 have hpl:(fnB (e0k plain.length) (kf plain)).length≤10020:=by rw[a0L];unfold e0k;omega
 have hfs:u8 (z+if aad= []then 0 else 64)=k0D aad nonce tag:=by rw[k0D,hz]
 refine zD (zr ?_)
 refine zb ?_
 refine zb ?_
 refine zb ?_
 refine zX ?_
 refine vR (xM rfl Tryz.func187 rfl rfl rfl (k0L _ nonce _ hn13 ⟨by omega,by omega⟩)) ?_
 intro V3 hV3
 refine zb ?_
 refine zF 0 ?_
 intro V4 hV4
 refine zb ?_
 refine vO (xM rfl Tryz.func188 rfl rfl rfl (j0b plain (by omega))) ?_
 refine AO.append' (i:=0) rfl rfl rfl rfl (by rfl) (by rfl) rfl rfl rfl (by exact SrcA.ro TyD.ax (by(simp;done)) (lB rfl)) (by exact d0z _ _) (by(unfold maxLen;omega)) (by omega) (by(dsimp only[List.set,cA,cN,List.take,List.drop];done)) (fun _=>by(dsimp only[List.set];done)) ?_
 intro V5 hV5
 refine AO.g ?_
 refine yQ 0 [49] ?_
 refine AO.u ?_
 dsimp only[List.map,List.eraseIdx,cA,cN]
 refine zc (zJ (zn (zD (zr ?_))))
 refine AO.opB (O.makeSlice rfl rfl rfl (by rfl) (by rfl) (by decide) (by decide) (by rfl)) rfl rfl rfl ?_
 intro B6
 refine zc (zJ (zn (zD (zD (zr ?_)))))
 refine zc (zJ (zn (xo ?_)))
 rw[hfs]
 obtain⟨N,hN⟩: ∃N,N=(r0h nonce aad plain tag).length:=⟨_,rfl⟩
 have hNe:N=16+(j0o aad).length+e0k plain.length:=by rw[hN,r0f]
 have hN16:N%16=0:=by have:=l0P aad;have:=l0C plain.length;omega
 have hNl:N≤100000:=by rw[a0L]at hpl;omega
 have e12:AV.ro false (16+(j0o aad).length+(fnB (e0k plain.length) (kf plain)).length) (arB 16 (c0m (k0D aad nonce tag) nonce plain.length)++a0a (j0o aad)++a0a (fnB (e0k plain.length) (kf plain)))= .ro false N (arB N (kf (r0h nonce aad plain tag))):=by
  have e:arB 16 (c0m (k0D aad nonce tag) nonce plain.length)++a0a (j0o aad)++a0a (fnB (e0k plain.length) (kf plain))=a0a (r0h nonce aad plain tag):=by
   simp only[r0h,a0a,List.map_append];rfl
  rw[e,f0t,←hN,a0L,←hNe]
 rw[e12]
 have e13:a0x 16 (.int .u8 0)=arB 16 (fun _=>0):=rfl
 rw[e13]
 refine AW.g ?_
 refine xT B6 16 16 0 rfl (a0b _ _) rfl (Nat.le_refl _) ?_
 refine AW.u ?_
 dsimp only[List.set]
 have hfin:=r0g (w:=wS (kf key)) nonce aad plain tag
 obtain⟨D,hD⟩: ∃D,D=r0h nonce aad plain tag:=⟨_,rfl⟩
 rw[←hD]at hN hfin⊢
 obtain⟨M,hM⟩: ∃M,M=j0n (wS (kf key)) nonce aad plain tag:=⟨_,rfl⟩
 rw[←hM]at hfin⊢
 obtain⟨w,hw⟩: ∃w,w=wS (kf key):=⟨_,rfl⟩
 rw[←hw]at hfin
 refine zi [(0,_),(12,_)] (fun nn E H=> ∃(j:Nat) (V:Value) (x:Nat→UInt8),(16*j≤N)∧(V.oneCell'=true)∧(absorb w x (D.drop (16*j))=absorb w (fun _=>0) D)∧nn=N-16*j∧E= [(13,.val V),(14,.val (.int .i64 ((16*j:Nat):Int)))]∧H= [.row V 5 1 16 (arB 16 x)]) _ (⟨0,_,fun _=>0,by omega,rfl,rfl,rfl,rfl,rfl⟩) ?_
 rintro nn E H ⟨j,V,x,hj,hV,hx,rfl,rfl,rfl⟩
 dsimp only[cA,cN]
 refine zD (zD (zr ?_))
 refine zb ?_
 refine zb ?_
 refine zX ?_
 refine zT (zJ (zn ?_))
 refine yt (fun h=> ?_) (fun h=> ?_)<;>(try simp only[vT]at h)
 ·have hj':16*j+16≤N:=by omega
  refine AW.g ?_
  refine G.openRow 0 rfl (by omega) (fun b' cap hc1 hc2 hxs hVe=> ?_)
  refine AW.u ?_
  subst hVe
  dsimp only[List.set]
  refine y6 (zn (zD (xo (zD (zD (zr ?_))))))
  refine zb (zJ (zn (xo ?_)))
  have e0:arB 16 x=arB 16 (fun q=>if q<0 then x q^^^kf D (16*j+q)else x q):=a0c fun q _=>(if_neg (by omega)).symm
  rw[e0]
  refine zi [(0,_),(12,_),(13,_),(14,_)] (fun nn E H=> ∃(k:Nat),(k≤16)∧nn=16-k∧E= [(57,.val (.int .i64 (k:Int)))]∧H= [.blk b' 5 (cap*1) (arB 16 (fun q=>if q<k then x q^^^kf D (16*j+q)else x q))]) _ (⟨0,by omega,rfl,rfl,rfl⟩) ?_
  rintro nn E H ⟨k,hk2,rfl,rfl,rfl⟩
  dsimp only[cA,cN]
  refine zD (zr ?_)
  refine zT (zJ (zn (zD ?_)))
  refine yt (fun h2=> ?_) (fun h2=> ?_)<;>(try simp only[vT]at h2)
  ·have hk':k<16:=by omega
   refine y6 (zn (zD (xo (zD (zr ?_)))))
   refine zb ?_
   refine zc (zJ (zn ?_))
   refine yA 12 ?_
   simp only[cT,cZ,cD,cO]
   refine zH ?_
   refine zH ?_
   refine wW ?_
   refine vP (O.load rfl rfl (by repeat(exact List.Mem.head _)) (by exact a0o (k:=k) (by omega) (by omega))) ?_
   refine zH ?_
   refine zH ?_
   refine zH ?_
   refine xm ?_
   refine xr ?_
   refine vP (O.loadR rfl rfl (by exact a0o (k:=16*j+k) (by omega) (by omega))) ?_
   refine wq ?_
   refine wW ?_
   refine vb ?_
   simp only[a0h,cN,cA,cP]
   refine yO 0 rfl rfl rfl rfl rfl rfl (by rfl) (by rfl) (by exact Nat.ble_eq_true_of_le (by rw[a0b];omega)) (by exact a0P (k:=k) (by omega) _ (by omega)) (zJ (xE (zn (zr ?_))))
   refine zB ?_
   refine zb (zJ ?_)
   have e1:arB 16 (fun q=>if q=k then(if k<k then x k^^^kf D (16*j+k)else x k)^^^kf D (16*j+k)else if q<k then x q^^^kf D (16*j+q)else x q)=arB 16 (fun q=>if q<k+1 then x q^^^kf D (16*j+q)else x q):=a0c fun q _=>by
    rcases Nat.lt_trichotomy q k with h1|h1|h1
    ·rw[if_neg (by omega),if_pos h1,if_pos (by omega)]
    ·rw[if_pos h1,if_neg (by omega),if_pos (by omega),h1]
    rw[if_neg (by omega),if_neg (by omega),if_neg (by omega)]
   rw[e1]
   refine zu _ _ _ (by omega) (⟨k+1,by omega,rfl,rfl,rfl⟩)
  obtain rfl:k=16:=by omega
  have e1:arB 16 (fun q=>if q<16 then x q^^^kf D (16*j+q)else x q)=arB 16 (fun q=>x q^^^kf D (16*j+q)):=a0c fun q hq=>if_pos hq
  rw[e1]
  refine AW.g ?_
  refine G.closeRow (b:=b') (n:=16) (cap:=cap) 0 rfl (a0b _ _) rfl hc1 hc2 ?_
  refine AW.u ?_
  dsimp only[List.set]
  refine wj ?_
  refine x8 ?_
  refine wd ?_
  refine xD (zn (zr ?_))
  refine zb ?_
  refine zb ?_
  refine AO.opN (O.callLP rfl Tryz.func186 rfl rfl rfl (by repeat(exact List.Mem.head _)) (q0E key _ hk) (j0z _ _) (by(repeat(first|exact LendL.nil|refine LendL.same ?_|refine LendL.lend ?_));done)) rfl rfl rfl ?_
  rintro _ _ ⟨V97,hV97,rfl,rfl⟩
  simp only[cA,cN]
  refine zb ?_
  refine zK ?_
  refine zK ?_
  refine zc (zJ (xE (zn (zr ?_))))
  refine zb ?_
  refine zB ?_
  refine zc (zJ ?_)
  have hne:D.drop (16*j)≠ []:=fun e=>by
   have:=congrArg List.length e
   rw[List.length_drop,cE]at this;omega
  have hx2:absorb w (enc w fun q=>x q^^^kf D (16*j+q)) (D.drop (16*(j+1)))=absorb w (fun _=>0) D:=by
   rw[←hx,b0i hne,List.drop_drop]
   have ek:(fun q=>x q^^^kf (D.drop (16*j)) q)=fun q=>x q^^^kf D (16*j+q):=by
    funext q;simp[kf,List.getElem?_drop]
   rw[ek,show 16*j+16=16*(j+1) by omega]
  have e2:((16*j:Nat):Int)+16=((16*(j+1):Nat):Int):=by omega
  rw[e2,←hw]
  refine zu _ _ _ (by omega) (⟨j+1,_,_,by omega,hV97,hx2,rfl,rfl,rfl⟩)
 have hj':16*j=N:=by omega
 refine wj ?_
 refine x8 ?_
 refine wd ?_
 refine xD (zn (zD (zr ?_)))
 refine zb ?_
 refine zc (zJ (zn (xj ?_)))
 refine AQ.g ?_
 refine yf 0 [10] ?_
 refine AQ.u ?_
 try dsimp only[List.map,List.eraseIdx,cA,cN]
 have ed:D.drop (16*j)= []:=List.drop_eq_nil_of_le (by omega)
 rw[ed,a0W]at hx
 have ef:arB 16 x=arB 16 M:=a0c fun q hq=>by rw[hx];exact hfin q hq
 rw[ef]
 refine AQ.g ?_
 refine G.re 10 (roB (fnB 16 M)) (congrArg some (b0L _ _).symm) ?_
 refine AQ.u ?_
 refine yM
def sF (w:Nat→UInt8)(nonce b:List UInt8)(c:Int)(i:Nat):UInt8:=kf b i^^^enc w (c0m (u8 (14-(nonce.length:Int))) nonce (c+((i/16:Nat):Int))) (i%16)
theorem k0M (first:Int)(nonce:List UInt8)(n:Int)(hn13:nonce.length≤13)(hn:0≤n∧n≤9223372036854775807):Sp Tryz.prog 187 [.val (.int .i64 first),roB nonce,.val (.int .i64 n)] [] (Is (.ro false 16 (arB 16 (c0m (u8 first) nonce n)))):=by
 rw[←b0L];exact n0b first nonce n hn13 hn
theorem q0F (key:List UInt8)(f:Nat→UInt8)(hk:key.length=16):Sp Tryz.prog 186 [roB key,.ro false 16 (arB 16 f)] [] (Is (.tup [.ro false 16 (arB 16 (enc (wS (kf key)) f)),.val (.int .i64 0)])):=by
 have h:=q0J key (fnB 16 f)
 have e1:v0I key (fnB 16 f)=fnB 16 (enc (wS (kf key)) f):=by
  rw[v0I,if_pos ⟨hk,a0L _ _⟩]
  exact c0g (g0B fun q hq=>j0q hq)
 have e2:w0j key (fnB 16 f)=0:=if_pos ⟨hk,a0L _ _⟩
 rw[e1,e2,b0L,b0L]at h
 exact h
theorem h0j (key nonce b:List UInt8)(c:Int)(hk:key.length=16)(hn13:nonce.length≤13)(hc:0≤c∧c≤1)(hb:b.length≤10000):Sp Tryz.prog 170 [roB key,roB nonce,roB b,.val (.int .i64 c)] [] (b0p 5 1 b.length (arB b.length (sF (wS (kf key)) nonce b c))):=by
 refine yX Tryz.func170 _ Tryz.ntmps170 (fun w0 R0=> ?_)
 refine zD (zr ?_)
 refine zc (zJ (zn (zD (zr ?_))))
 refine zc ?_
 refine zc (zJ (zn (zD (zD (zr ?_)))))
 refine zb ?_
 refine zX ?_
 refine zb (zJ (zn (xo ?_)))
 refine AW.g ?_
 refine G.nilRow 5 1 ?_
 refine AW.u ?_
 refine zi [(0,_),(1,_),(3,_),(13,_),(14,_)] (fun nn E H=> ∃(i:Nat) (V:Value) (S:AV),(i≤b.length)∧(V.oneCell'=true)∧(i%16≠0→S= .ro false 16 (arB 16 (enc (wS (kf key)) (c0m (u8 (14-(nonce.length:Int))) nonce (c+((i/16:Nat):Int))))))∧nn=b.length-i∧E= [(9,.val V),(10,S),(15,.val (.int .i64 (i:Int)))]∧H= [.row V 5 1 i (arB i (sF (wS (kf key)) nonce b c))]) _ (⟨0,.slice none 0 0,.val (.slice none 0 0),by omega,rfl,fun h=>absurd rfl h,rfl,rfl,rfl⟩) ?_
 rintro nn E H ⟨i,V,S,hi,hV,hS,rfl,rfl,rfl⟩
 dsimp only[cA,cN]
 refine zD (zr ?_)
 refine zT (zJ (zn (zD ?_)))
 refine yt (fun h=> ?_) (fun h=> ?_)<;>(try simp only[vT]at h)
 ·have hi':i<b.length:=by omega
  have hget:(a0a b)[(i:Int).toNat*1]? =some (by8 (kf b i)):=by
   rw[f0t];exact a0o (by omega) (by omega)
  refine y6 (zn (zD (xo (zD (zr ?_)))))
  refine zb ?_
  refine ye ?_
  refine vO (O.loadR rfl rfl (by exact hget)) ?_
  refine zc ?_
  refine zc (zJ (zn (zD (zD (zr ?_)))))
  refine zb ?_
  refine wn ?_
  refine z8 (zJ (zn ?_))
  obtain⟨z,hz⟩: ∃z,z=enc (wS (kf key)) (c0m (u8 (14-(nonce.length:Int))) nonce (c+((i/16:Nat):Int))):=⟨_,rfl⟩
  have ei:(i:Int)/16=((i/16:Nat):Int):=by omega
  refine xR True [(0,_),(1,_),(3,_),(9,_),(11,_),(12,_),(13,_),(14,_),(15,_)] [(10,.ro false 16 (arB 16 z))] [.row V 5 1 i (arB i (sF (wS (kf key)) nonce b c))] (fun h22=> ?_) (fun h22=> ?_) (fun hj=> ?_)<;>try(try simp only[vT]at h22)
  ·refine zr ?_
   refine zb ?_
   refine zb ?_
   refine zX ?_
   refine yN ?_
   refine zb ?_
   refine zb ?_
   refine zb ?_
   refine wL ?_
   refine zB ?_
   refine vO (xM rfl Tryz.func187 rfl rfl rfl (k0M _ nonce _ hn13 ⟨by omega,by omega⟩)) ?_
   refine vO (xM rfl Tryz.func186 rfl rfl rfl (q0F key _ hk)) ?_
   refine zb ?_
   refine zK ?_
   refine zK ?_
   refine zc (zJ ?_)
   rw[ei,←hz]
   refine yl
  ·have:=hS (by omega)
   subst this
   rw[←hz]
   refine y6 ?_
   refine yl
  dsimp only[cA,cN]
  refine zn (zr ?_)
  refine zb ?_
  refine zb ?_
  refine zb ?_
  refine zb ?_
  refine wn ?_
  refine ye ?_
  refine vO (O.loadR rfl rfl (by exact a0o (k:=i%16) (by omega) (by omega))) ?_
  refine vE ?_
  refine zR ?_
  intro B1
  refine AO.g ?_
  refine yi 0 45 ?_
  refine wm 45 ?_
  refine AO.u ?_
  dsimp only[List.eraseIdx]
  refine yq 0 ?_
  intro V2 hV2
  refine zc (zJ (xE (zn (zr ?_))))
  refine zB ?_
  refine zb (zJ ?_)
  have e1:arB i (sF (wS (kf key)) nonce b c)++[AV.val (.int .u8 ((kf b i^^^z (i%16)).toNat:Int))]=arB (i+1) (sF (wS (kf key)) nonce b c):=c0w (by rw[sF,hz])
  rw[e1]
  refine zu _ _ _ (by omega) (⟨i+1,V2,.ro false 16 (arB 16 z),by omega,hV2,fun h=>by rw[hz,show(i+1)/16=i/16 by omega],rfl,rfl,rfl⟩)
 obtain rfl:i=b.length:=by omega
 refine wj ?_
 refine x8 ?_
 refine wd ?_
 refine xD (zn (zD (zr ?_)))
 refine zb ?_
 refine zc (zJ (zn (xj ?_)))
 refine vz rfl rfl ⟨_,by repeat(first|exact List.Sublist.slnil|refine List.Sublist.cons_cons _ ?_),List.Perm.refl _⟩ (⟨_,rfl,hV,rfl⟩)
theorem l0q (key nonce b:List UInt8)(hk:key.length=16)(hn13:nonce.length≤13)(hb:b.length≤10000):Sp Tryz.prog 170 [roB key,roB nonce,roB b,.val (.int .i64 1)] [] (b0p 5 1 b.length (arB b.length (e0N (wS (kf key)) nonce b))):=by
 have h:=h0j key nonce b 1 hk hn13 (by omega) hb
 have e:sF (wS (kf key)) nonce b 1=e0N (wS (kf key)) nonce b:=by
  funext i;rw[sF,e0N,Int.add_comm]
 rw[e]at h;exact h
theorem q0t (key nonce:List UInt8)(M:Nat→UInt8)(hk:key.length=16)(hn13:nonce.length≤13):Sp Tryz.prog 170 [roB key,roB nonce,roB (fnB 16 M),.val (.int .i64 0)] [] (b0p 5 1 16 (arB 16 (e0I (wS (kf key)) nonce M))):=by
 have h:=h0j key nonce (fnB 16 M) 0 hk hn13 (by omega) (by rw[a0L];omega)
 rw[a0L]at h
 have e:arB 16 (sF (wS (kf key)) nonce (fnB 16 M) 0)=arB 16 (e0I (wS (kf key)) nonce M):=a0c fun q hq=>by
  rw[sF,e0I,j0q hq,show q/16=0 by omega,show q%16=q by omega];rfl
 rw[e]at h;exact h
theorem y0u {T:Nat}(h:T≤16)(f:Nat→UInt8):(arB 16 f).take (T*1)=arB T f:=by
 have:=r0F h f
 rw[show(T-0)*1=T*1 by omega]at this
 exact this
theorem l0r (key nonce aad plain:List UInt8)(tag:Int)(ha:aad.length≤1000000)(hp:plain.length≤1000000):Sp Tryz.prog 128 [roB key,roB nonce,roB aad,roB plain,.val (.int .i64 tag)] [] (Is (.tup [roB (e0Q key nonce aad plain tag),.val (.int .i64 (d0R key nonce aad plain tag))])):=by
 refine yX Tryz.func128 _ Tryz.ntmps128 (fun w0 R0=> ?_)
 refine zD (zr ?_)
 refine zc ?_
 refine zc (zJ (zn (zD (xo (zD (zr ?_))))))
 refine zb ?_
 refine zb ?_
 refine zb ?_
 refine vO (xM rfl Tryz.func169 rfl rfl rfl (i0U key nonce _)) ?_
 refine xu ?_
 refine zc (zJ (zn ?_))
 refine yt (fun h=> ?_) (fun h=> ?_)<;>(try simp only[vT]at h)
 ·have hb:cvB key nonce tag=false:=by simpa using h
  obtain⟨e1,e2⟩:=l0n (aad:=aad) (plain:=plain) hb
  rw[e1,e2]
  refine zD (zr ?_)
  refine zc ?_
  refine zc (zJ (zn (xj ?_)))
  refine ww (xx ?_)
  refine wa yV yv (⟨rfl,rfl⟩)
 obtain⟨hk,hn7,hn13,ht4,ht16,ht2⟩:=m0a h
 refine zD (zr ?_)
 refine zb ?_
 refine zX ?_
 refine yZ ?_
 refine zb ?_
 refine yC ?_
 refine yb 23 ?_
 refine yB 24 ?_
 refine zI ?_
 refine zc (zJ (zn ?_))
 refine yt (fun h2=> ?_) (fun h2=> ?_)<;>(try simp only[vT]at h2)
 ·have hb:c0s aad plain=false:=by
   simp only[c0s,Bool.and_eq_false_iff,decide_eq_false_iff_not]
   omega
  obtain⟨e1,e2⟩:=i0N h hb
  rw[e1,e2]
  refine zD (zr ?_)
  refine zc ?_
  refine zc (zJ (zn (xj ?_)))
  refine ww (xx ?_)
  refine wa yV yv (⟨rfl,rfl⟩)
 have hb:c0s aad plain=true:=by
  simp only[c0s,Bool.and_eq_true,cQ]
  omega
 obtain⟨e1,e2⟩:=d0o h hb
 rw[e1,e2]
 obtain⟨T,hT⟩: ∃T:Nat,T=tag.toNat:=⟨_,rfl⟩
 rw[←hT]
 have hT':tag=(T:Int):=by omega
 have ha':aad.length≤10000:=by omega
 have hp':plain.length≤10000:=by omega
 obtain⟨M,hM⟩: ∃M,M=j0n (wS (kf key)) nonce aad plain tag:=⟨_,rfl⟩
 have j0T:=v0t key nonce aad plain tag hk hn13 ⟨ht4,ht16⟩ ha' hp'
 rw[←hM]at j0T⊢
 refine y6 (xE (zn (zD (zr ?_))))
 refine zb ?_
 refine zb ?_
 refine zb ?_
 refine vR (xM rfl Tryz.func170 rfl rfl rfl (l0q key nonce plain hk hn13 hp')) ?_
 intro V1 hV1
 refine zb ?_
 refine zb ?_
 refine zb ?_
 refine zb ?_
 refine zb ?_
 refine zb ?_
 refine zb ?_
 refine vO (xM rfl Tryz.func171 rfl rfl rfl j0T) ?_
 refine vR (xM rfl Tryz.func170 rfl rfl rfl (q0t key nonce M hk hn13)) ?_
 intro V2 hV2
 refine AO.g ?_
 refine yQ 0 [39] ?_
 refine AO.u ?_
 dsimp only[List.map,List.eraseIdx,cA,cN]
 refine zb ?_
 refine vO (O.sliceTo (k:=T) rfl rfl rfl (by omega) (by omega) (by exact y0u (by omega) _)) ?_
 refine AO.append' (i:=0) rfl rfl rfl rfl (by rfl) (by rfl) rfl rfl rfl (by exact SrcA.ro TyD.ax (by(simp;done)) (lB rfl)) (by exact d0z _ _) (by(unfold maxLen;omega)) (by omega) (by(dsimp only[List.set,List.append,cA,cN,a0e,a0A,AV.cells,List.map,List.map_cons,List.map_nil,List.take,List.drop,Nat.zero_add,Nat.add_zero,Nat.reduceAdd,Nat.reduceMul,Nat.zero_mul,Value.cells,List.toList_toArray,a0x,List.replicate,List.flatten,cP];done)) (fun _=>by(dsimp only[List.set];done)) ?_
 intro V3 hV3
 refine AO.g ?_
 refine yQ 0 [42] ?_
 refine AO.u ?_
 dsimp only[List.map,List.eraseIdx,cA,cN]
 refine zc ?_
 refine zc (zJ (zn (xj ?_)))
 refine AQ.g ?_
 refine G.re 10 (roB (fnB plain.length (e0N (wK key) nonce plain)++fnB T (e0I (wK key) nonce M))) (congrArg some (l0u _ T _ _)) ?_
 refine AQ.u ?_
 refine wa yV yR (⟨rfl,rfl⟩)
end Go.Proofs.YtojomcdjcpmnkaaGreat.By
namespace Go.Proofs.YtojomcdjcpmnkaaGreat.By
open Go.RowKit L A
attribute [local irreducible] AW AQ AO
attribute [local simp] a0b
def d0Y (aad cipher:List UInt8)(tag:Int):Bool:=decide ((aad.length:Int)≤4096)&&decide ((cipher.length:Int)≤4096+tag)
def e0Y (key nonce cipher:List UInt8)(tag:Int):List UInt8:=fnB (cipher.length-tag.toNat) (e0N (wK key) nonce (cipher.take (cipher.length-tag.toNat)))
def g0W (key nonce aad cipher:List UInt8)(tag:Int):Bool:=e0Q key nonce aad (e0Y key nonce cipher tag) tag==cipher
def b0G (key nonce aad cipher:List UInt8)(tag:Int):List UInt8:=
 if cvB key nonce tag&&d0Y aad cipher tag&&decide (tag≤(cipher.length:Int))&&g0W key nonce aad cipher tag then e0Y key nonce cipher tag else []
def b0V (key nonce aad cipher:List UInt8)(tag:Int):Int:=
 if cvB key nonce tag then(if d0Y aad cipher tag then(if tag≤(cipher.length:Int)then(if g0W key nonce aad cipher tag then 0 else 11)else 2)else 8)else 1
theorem q0y (key nonce aad cipher:List UInt8)(tag:Int)(ha:aad.length≤1000000)(hp:cipher.length≤1000000):Sp Tryz.prog 142 [roB key,roB nonce,roB aad,roB cipher,.val (.int .i64 tag)] [] (Is (.tup [roB (b0G key nonce aad cipher tag),.val (.int .i64 (b0V key nonce aad cipher tag))])):=by
 refine yX Tryz.func142 _ Tryz.ntmps142 (fun w0 R0=> ?_)
 refine zD (zr ?_)
 refine zc ?_
 refine zc (zJ (zn (zD (xo (zD (zr ?_))))))
 refine zb ?_
 refine zb ?_
 refine zb ?_
 refine vO (xM rfl Tryz.func169 rfl rfl rfl (i0U key nonce _)) ?_
 refine xu ?_
 refine zc (zJ (zn ?_))
 refine yt (fun h=> ?_) (fun h=> ?_)<;>(try simp only[vT]at h)
 ·have hb:cvB key nonce tag=false:=by simpa using h
  have e1:b0G key nonce aad cipher tag= []:=by simp[b0G,hb]
  have e2:b0V key nonce aad cipher tag=1:=by simp[b0V,hb]
  rw[e1,e2]
  refine zD (zr ?_)
  refine zc ?_
  refine zc (zJ (zn (xj ?_)))
  refine ww (xx ?_)
  refine wa yV yv (⟨rfl,rfl⟩)
 obtain⟨hk,hn7,hn13,ht4,ht16,ht2⟩:=m0a h
 refine zD (zr ?_)
 refine zb ?_
 refine zX ?_
 refine yZ ?_
 refine zb ?_
 refine yC ?_
 refine yb 26 ?_
 refine yC ?_
 refine AO.opG rfl rfl rfl (fun hp=>ve 28 rfl (by exact hp) zG) ?_
 refine AO.opG rfl rfl rfl (fun hp=>ve 27 rfl (by exact hp) (ve 29 rfl (by exact hp) yT)) ?_
 refine zI ?_
 refine zc (zJ (zn ?_))
 refine yt (fun h2=> ?_) (fun h2=> ?_)<;>(try simp only[vT]at h2)
 ·have hb:d0Y aad cipher tag=false:=by
   simp only[d0Y,Bool.and_eq_false_iff,decide_eq_false_iff_not]
   omega
  have e1:b0G key nonce aad cipher tag= []:=by simp[b0G,hb]
  have e2:b0V key nonce aad cipher tag=8:=by simp[b0V,h,hb]
  rw[e1,e2]
  refine zD (zr ?_)
  refine zc ?_
  refine zc (zJ (zn (xj ?_)))
  refine ww (xx ?_)
  refine wa yV yv (⟨rfl,rfl⟩)
 have hb:d0Y aad cipher tag=true:=by
  simp only[d0Y,Bool.and_eq_true,cQ]
  omega
 refine zD (zr ?_)
 refine zb ?_
 refine zX ?_
 refine zb ?_
 refine zT ?_
 refine zc (zJ (zn ?_))
 refine yt (fun h3=> ?_) (fun h3=> ?_)<;>(try simp only[vT]at h3)
 ·have e1:b0G key nonce aad cipher tag= []:=by simp[b0G,show ¬tag≤(cipher.length:Int) by omega]
  have e2:b0V key nonce aad cipher tag=2:=by simp[b0V,h,hb,show ¬tag≤(cipher.length:Int) by omega]
  rw[e1,e2]
  refine zD (zr ?_)
  refine zc ?_
  refine zc (zJ (zn (xj ?_)))
  refine ww (xx ?_)
  refine wa yV yv (⟨rfl,rfl⟩)
 have h3':tag≤(cipher.length:Int):=by omega
 obtain⟨n,hn⟩: ∃n:Nat,n=cipher.length-tag.toNat:=⟨_,rfl⟩
 have hn':(cipher.length:Int)-tag=(n:Int):=by omega
 have hct:(cipher.take n).length=n:=by rw[List.length_take];omega
 have hopt:e0Y key nonce cipher tag=fnB n (e0N (wK key) nonce (cipher.take n)):=by rw[e0Y,←hn]
 have hst:=l0q key nonce (cipher.take n) hk hn13 (by omega)
 obtain⟨PT,hPT⟩: ∃PT,PT=e0Y key nonce cipher tag:=⟨_,rfl⟩
 have hPl:PT.length=n:=by rw[hPT,hopt,a0L]
 have eP:arB (cipher.take n).length (e0N (wS (kf key)) nonce (cipher.take n))=a0a PT:=by rw[hPT,hopt,hct];rfl
 rw[eP,hct]at hst
 have hst:Sp Tryz.prog 170 [roB key,roB nonce,roB (cipher.take n),.val (.int .i64 1)] [] (b0p 5 1 PT.length (a0a PT)):=by rw[hPl];exact hst
 refine y6 (xE (zn (zD (zr ?_))))
 refine zb ?_
 refine zb ?_
 refine zb ?_
 refine zb ?_
 refine zX ?_
 refine zb ?_
 refine yN ?_
 refine vO (O.sliceToB (k:=n) rfl rfl rfl (by omega) (by omega)) ?_
 refine vR (xM rfl Tryz.func170 rfl rfl rfl hst) ?_
 intro V1 hV1
 refine AO.g ?_
 refine yQ 0 [45] ?_
 refine AO.u ?_
 dsimp only[List.map,List.eraseIdx,cA,cN]
 refine zc (zJ (zn (zD (zr ?_))))
 refine zb ?_
 refine zb ?_
 refine zb ?_
 refine zb ?_
 refine zb ?_
 refine vO (xM rfl Tryz.func128 rfl rfl rfl (l0r key nonce aad PT tag (by omega) (by omega))) ?_
 refine zb ?_
 refine zK ?_
 refine zK ?_
 refine zc ?_
 refine zc (zJ (zn (zD (zD (zr ?_)))))
 refine zb ?_
 refine vO (O.convS rfl rfl (by rfl)) ?_
 refine zb ?_
 refine vO (O.convS rfl rfl (by rfl)) ?_
 refine vO (O.neqS rfl rfl rfl (by rfl)) (zJ (zn ?_))
 obtain⟨SL,hSL⟩: ∃L,L=e0Q key nonce aad PT tag:=⟨_,rfl⟩
 rw[←hSL]
 refine yt (fun h4=> ?_) (fun h4=> ?_)<;>(try simp only[vT]at h4)
 ·have hB:g0W key nonce aad cipher tag=false:=by rw[g0W,←hPT,←hSL];simpa using h4
  have e1:b0G key nonce aad cipher tag= []:=by simp[b0G,hB]
  have e2:b0V key nonce aad cipher tag=11:=by simp[b0V,h,hb,h3',hB]
  rw[e1,e2]
  refine zD (zr ?_)
  refine zc ?_
  refine zc (zJ (zn (xj (xx ?_))))
  refine wa yV yv (⟨rfl,rfl⟩)
 have hB:g0W key nonce aad cipher tag=true:=by rw[g0W,←hPT,←hSL];simpa using h4
 have e1:b0G key nonce aad cipher tag=PT:=by simp[b0G,h,hb,h3',hB,hPT]
 have e2:b0V key nonce aad cipher tag=0:=by simp[b0V,h,hb,h3',hB]
 rw[e1,e2]
 refine y6 (zn (zD (zr ?_)))
 refine zb ?_
 refine zc ?_
 refine zc (zJ (zn (xj ?_)))
 refine wa yV yR (⟨rfl,rfl⟩)
end Go.Proofs.YtojomcdjcpmnkaaGreat.By
namespace Go.Proofs.YtojomcdjcpmnkaaGreat.By
open Go.RowKit L A
attribute [local irreducible] AW AQ AO
def o0I (outer inner:Msg)(v:Cmp)(key nonce aad:List UInt8):Msg:=⟨outer.ty,outer.code,outer.id,outer.tok,e0O outer.opts 9 [(d0w v).1],e0Q key nonce aad (b0w inner).1 8⟩
def h0T (outer inner:Msg)(v:Cmp)(key nonce aad:List UInt8):Msg×Int:=
 if(b0w inner).2≠0 then(Msg.none,(b0w inner).2)else
 if d0R key nonce aad (b0w inner).1 8≠0 then(Msg.none,d0R key nonce aad (b0w inner).1 8)else
 if(e0A (o0I outer inner v key nonce aad)).2≠0 then(Msg.none,8)else(o0I outer inner v key nonce aad,0)
theorem k0j {outer inner:Msg}{v:Cmp}{key nonce aad:List UInt8}(h:(b0w inner).2≠0):h0T outer inner v key nonce aad=(Msg.none,(b0w inner).2):=if_pos h
theorem k0i {outer inner:Msg}{v:Cmp}{key nonce aad:List UInt8}(h:(b0w inner).2=0)(h2:d0R key nonce aad (b0w inner).1 8≠0):h0T outer inner v key nonce aad=(Msg.none,d0R key nonce aad (b0w inner).1 8):=(if_neg (fun g=>g h)).trans (if_pos h2)
theorem k0h {outer inner:Msg}{v:Cmp}{key nonce aad:List UInt8}(h:(b0w inner).2=0)(h2:d0R key nonce aad (b0w inner).1 8=0)(h3:(e0A (o0I outer inner v key nonce aad)).2≠0):h0T outer inner v key nonce aad=(Msg.none,8):=(if_neg (fun g=>g h)).trans ((if_neg (fun g=>g h2)).trans (if_pos h3))
theorem h0S {outer inner:Msg}{v:Cmp}{key nonce aad:List UInt8}(h:(b0w inner).2=0)(h2:d0R key nonce aad (b0w inner).1 8=0)(h3:(e0A (o0I outer inner v key nonce aad)).2=0):h0T outer inner v key nonce aad=(o0I outer inner v key nonce aad,0):=(if_neg (fun g=>g h)).trans ((if_neg (fun g=>g h2)).trans (if_neg (fun g=>g h3)))
theorem j0d (m:Msg):(b0w m).1.length≤5000:=by
 unfold b0w
 split
 ·split
  ·rename_i h
   have:=g0E h
   simp only[cL,List.length_drop];omega
  simp
 simp
theorem r0v (c:Cmp):(d0w c).1.length≤100:=by
 unfold d0w
 split
 ·simp
 rename_i h
 have hv:=Decidable.not_not.1 h
 have hp:=c0Y c.piv
 obtain⟨⟨-, -,h1,h2⟩, -⟩:=hv
 split
 ·simp
 unfold s0k
 cases c.hasCtx<;>simp<;>omega
abbrev SmS (m:Msg):Prop:=m.tok.length≤1000000∧m.pay.length≤1000000∧m.opts.length≤100000∧ ∀o∈m.opts,o.val.length≤1000000
theorem n0T:SmS Msg.none:=⟨by simp[Msg.none],by simp[Msg.none],by simp[Msg.none],fun o ho=>by cases ho⟩
theorem r0V {m:Msg}(h:ValM m):SmS m:=by
 obtain⟨h1,h2,h3,h4⟩:=ValM.sm h
 refine⟨by omega,by omega,by omega,fun o ho=> ?_⟩
 obtain⟨k,hk,rfl⟩:=List.getElem_of_mem ho
 have:=h4 k hk
 have e:oat m.opts k=m.opts[k]:=by simp[hk]
 rw[e]at this;omega
theorem l0h (m:Msg):SmS (a0u m).2.1:=by
 unfold a0u
 split
 ·rename_i h
  split
  ·exact n0T
  obtain⟨h1,h2,h3,h4⟩:=r0V h.1
  have hl:=i0c m.opts
  exact⟨h1,by show([]:List UInt8).length≤_;simp,by show(e0W m.opts).length≤_;omega,fun o ho=>h4 o (List.mem_filter.1 ho).1⟩
 exact n0T
theorem n0S {outer inner:Msg}{v:Cmp}{key nonce aad:List UInt8}(h:SmS outer):outer.tok.length≤140737488355328∧outer.pay.length≤140737488355328∧(∀o∈outer.opts,o.val.length≤140737488355328)∧(∀w∈ [(d0w v).1],w.length≤140737488355328):=by
 refine⟨by have:=h.1;omega,by have:=h.2.1;omega,fun o ho=>by have:=h.2.2.2 o ho;omega,fun w hw=> ?_⟩
 obtain rfl:=List.mem_singleton.1 hw
 have:=r0v v;omega
abbrev x0m (l:List UInt8):AV:= .ro false 1 [roB l]
theorem o0a (outer inner:Msg)(v:Cmp)(key nonce aad:List UInt8)(ho:SmS outer)(ha:aad.length≤1000000):
  Sp Tryz.prog 68 [b0c outer,b0c inner,q0e v,roB key,roB nonce,roB aad] [] (Is (i0S (h0T outer inner v key nonce aad))):=by
 have hpl:=j0d inner
 obtain⟨g1,g2,g3,g4⟩:=n0S (inner:=inner) (v:=v) (key:=key) (nonce:=nonce) (aad:=aad) ho
 have hset:Sp Tryz.prog 25 [b0c outer,.val (.int .i64 9),x0m (d0w v).1] [] (Is (b0c ⟨outer.ty,outer.code,outer.id,outer.tok,e0O outer.opts 9 [(d0w v).1],outer.pay⟩)):=n0X outer 9 [(d0w v).1] g1 g2 ho.2.2.1 (by simp) g3 g4
 refine yX Tryz.func68 _ Tryz.ntmps68 (fun w0 R0=> ?_)
 refine zD (zr ?_)
 refine yo ?_
 intro B1
 refine yo ?_
 intro B2
 refine yo ?_
 intro B3
 refine zd ?_
 intro B4
 refine zc (zJ (zn (zD (zr ?_))))
 refine zA ?_
 refine vO (xM rfl Tryz.func127 rfl rfl rfl (q0w inner)) ?_
 refine zb ?_
 refine zK ?_
 refine zK ?_
 refine zc ?_
 refine zc (zJ (zn (zD (zD (zr ?_)))))
 refine zb ?_
 refine y2 (zJ (zn ?_))
 refine yt (fun h1=> ?_) (fun h1=> ?_)<;>(try simp only[vT]at h1)
 ·rw[k0j h1]
  refine zD (zr ?_)
  refine zP ?_
  refine zb ?_
  refine za 0 ?_
  refine zc (zJ (zn (xj (xx ?_))))
  refine wa yd zl (⟨rfl,rfl⟩)
 refine y6 (zn (zD (zr ?_)))
 refine zb ?_
 refine zb ?_
 refine zb ?_
 refine zb ?_
 refine vO (xM rfl Tryz.func128 rfl rfl rfl (l0r key nonce aad (b0w inner).1 8 ha (by omega))) ?_
 refine zb ?_
 refine zK ?_
 refine zK ?_
 refine zc ?_
 refine zc (zJ (zn (zD (zD (zr ?_)))))
 refine zb ?_
 refine y2 (zJ (zn ?_))
 refine yt (fun h2=> ?_) (fun h2=> ?_)<;>(try simp only[vT]at h2)
 ·rw[k0i h1 h2]
  refine zD (zr ?_)
  refine zP ?_
  refine zb ?_
  refine za 0 ?_
  refine zc (zJ (zn (xj (xx ?_))))
  refine wa yd zl (⟨rfl,rfl⟩)
 refine y6 (zn (zD (zr ?_)))
 refine zA ?_
 refine vO (xM rfl Tryz.func23 rfl rfl rfl (k0p v)) ?_
 refine zb ?_
 refine zK ?_
 refine zK ?_
 refine zc ?_
 refine zc (zJ (zn (zD (zr ?_))))
 refine zA ?_
 refine zb ?_
 refine zR ?_
 intro B5
 refine AO.g ?_
 refine yi 0 50 ?_
 refine wm 50 ?_
 refine AO.u ?_
 dsimp only[List.eraseIdx]
 refine vO (xM rfl Tryz.func25 rfl rfl rfl hset) ?_
 refine zd ?_
 intro B6
 refine za 0 (zJ (zn (zD (zr ?_))))
 refine zb ?_
 refine zq ?_
 refine za 0 (zJ (zn (zD (zD (zr ?_)))))
 refine zC ?_
 refine vO (xM rfl Tryz.func120 rfl rfl rfl (k0m (o0I outer inner v key nonce aad))) ?_
 refine zb ?_
 refine zK ?_
 refine zK ?_
 refine zc ?_
 refine zc (zJ (zn (zD (zr ?_))))
 refine zb ?_
 refine y2 (zJ (zn ?_))
 refine yt (fun h3=> ?_) (fun h3=> ?_)<;>(try simp only[vT]at h3)
 ·rw[k0h h1 h2 h3]
  refine zD (zr ?_)
  refine zP ?_
  refine za 1 ?_
  refine zc (zJ (zn (xj (xx ?_))))
  refine wa zm zl (⟨rfl,rfl⟩)
 rw[h0S h1 h2 h3]
 refine y6 (zn (zD (zr ?_)))
 refine zC ?_
 refine za 1 ?_
 refine zc (zJ (zn (xj ?_)))
 refine AQ.retCT rfl rfl rfl mM (by(dsimp only[List.set,cA,cN,List.take,List.drop];rfl)) rfl nS (⟨rfl,rfl⟩)
def o0B (m:Msg)(v:Cmp)(key nonce aad:List UInt8):Msg×Int:=if(a0u m).2.2≠0 then(Msg.none,(a0u m).2.2)else h0T (a0u m).2.1 (a0u m).1 v key nonce aad
theorem k0t {m:Msg}{v:Cmp}{key nonce aad:List UInt8}(h:(a0u m).2.2≠0):o0B m v key nonce aad=(Msg.none,(a0u m).2.2):=if_pos h
theorem h0Z {m:Msg}{v:Cmp}{key nonce aad:List UInt8}(h:(a0u m).2.2=0):o0B m v key nonce aad=h0T (a0u m).2.1 (a0u m).1 v key nonce aad:=if_neg (fun g=>g h)
theorem m0D (c:Cx)(m:Msg)(v:Cmp)(nonce aad:List UInt8)(hv:(d0w v).2=0)(ha:aad.length≤1000000):
  Sp Tryz.prog 61 [j0N c,b0c m,q0e v,roB nonce,roB aad] [] (Is (i0S (o0B m v c.sk nonce aad))):=by
 have ho:=l0h m
 have hpl:=j0d (a0u m).1
 obtain⟨g1,g2,g3,g4⟩:=n0S (inner:=m) (v:=v) (key:=c.sk) (nonce:=nonce) (aad:=aad) ho
 have hset:Sp Tryz.prog 118 [b0c (a0u m).2.1,.val (.int .i64 9),x0m (d0w v).1] [] (Is (b0c ⟨(a0u m).2.1.ty,(a0u m).2.1.code,(a0u m).2.1.id,(a0u m).2.1.tok,e0O (a0u m).2.1.opts 9 [(d0w v).1],(a0u m).2.1.pay⟩)):=t0v (a0u m).2.1 9 [(d0w v).1] g1 g2 ho.2.2.1 (by simp) g3 g4
 refine yX Tryz.func61 _ Tryz.ntmps61 (fun w0 R0=> ?_)
 refine zD (zr ?_)
 refine yo ?_
 intro B1
 refine yo ?_
 intro B2
 refine yo ?_
 intro B3
 refine zd ?_
 intro B4
 refine zc (zJ (zn (zD (zr ?_))))
 refine zA ?_
 refine vO (xM rfl Tryz.func114 rfl rfl rfl (q0j m)) ?_
 refine zb ?_
 refine zK ?_
 refine zK ?_
 refine zK ?_
 refine zd ?_
 intro B5
 refine zd ?_
 intro B6
 refine za 1 ?_
 refine za 0 ?_
 refine zc (zJ (zn (zD (zD (zr ?_)))))
 refine zb ?_
 refine y2 (zJ (zn ?_))
 refine yt (fun h0=> ?_) (fun h0=> ?_)<;>(try simp only[vT]at h0)
 ·rw[k0t h0]
  refine zD (zr ?_)
  refine zP ?_
  refine zb ?_
  refine za 2 ?_
  refine zc (zJ (zn (xj (xx ?_))))
  refine wa zm zl (⟨rfl,rfl⟩)
 rw[h0Z h0]
 refine y6 (zn (zD (zr ?_)))
 refine zA ?_
 refine vO (xM rfl Tryz.func115 rfl rfl rfl (t0t (a0u m).1)) ?_
 refine zb ?_
 refine zK ?_
 refine zK ?_
 refine zc ?_
 refine zc (zJ (zn (zD (zD (zr ?_)))))
 refine zb ?_
 refine y2 (zJ (zn ?_))
 refine yt (fun h1=> ?_) (fun h1=> ?_)<;>(try simp only[vT]at h1)
 ·rw[k0j h1]
  refine zD (zr ?_)
  refine zP ?_
  refine zb ?_
  refine za 2 ?_
  refine zc (zJ (zn (xj (xx ?_))))
  refine wa zm zl (⟨rfl,rfl⟩)
 refine y6 (zn (zD (zr ?_)))
 refine zq ?_
 refine zp ?_
 refine zb ?_
 refine zb ?_
 refine zb ?_
 refine vO (xM rfl Tryz.func116 rfl rfl rfl (s0T c.sk nonce aad (b0w (a0u m).1).1 8 ha (by omega))) ?_
 refine zb ?_
 refine zK ?_
 refine zK ?_
 refine zc ?_
 refine zc (zJ (zn (zD (zD (zr ?_)))))
 refine zb ?_
 refine y2 (zJ (zn ?_))
 refine yt (fun h2=> ?_) (fun h2=> ?_)<;>(try simp only[vT]at h2)
 ·rw[k0i h1 h2]
  refine zD (zr ?_)
  refine zP ?_
  refine zb ?_
  refine za 2 ?_
  refine zc (zJ (zn (xj (xx ?_))))
  refine wa zm zl (⟨rfl,rfl⟩)
 refine y6 (zn (zD (zr ?_)))
 refine zA ?_
 refine vO (xM rfl Tryz.func117 rfl rfl rfl (n0f v)) ?_
 refine zb ?_
 refine zK ?_
 refine zK ?_
 refine zc ?_
 refine zc (zJ (zn (zD (zD (zr ?_)))))
 refine zb ?_
 refine vO (O.neq rfl rfl rfl (by exact bne_eq_false_iff_eq.2 (by omega))) (zJ (zn ?_))
 refine yt (fun h3=> ?_) (fun h3=> ?_)<;>(try simp only[vT]at h3)
 ·exact absurd h3 (by simp)
 refine y6 (zn (zD (zr ?_)))
 refine zC ?_
 refine zb ?_
 refine zR ?_
 intro B7
 refine AO.g ?_
 refine yi 0 62 ?_
 refine wm 62 ?_
 refine AO.u ?_
 dsimp only[List.eraseIdx]
 refine vO (xM rfl Tryz.func118 rfl rfl rfl hset) ?_
 refine zd ?_
 intro B8
 refine za 0 (zJ (zn (zD (zr ?_))))
 refine zb ?_
 refine zq ?_
 refine za 0 (zJ (zn (zD (zD (zr ?_)))))
 refine zC ?_
 refine vO (xM rfl Tryz.func119 rfl rfl rfl (p0r (o0I (a0u m).2.1 (a0u m).1 v c.sk nonce aad))) ?_
 refine zb ?_
 refine zK ?_
 refine zK ?_
 refine zc (zJ (zn (zD (zr ?_))))
 refine zb ?_
 refine y2 (zJ (zn ?_))
 refine yt (fun h4=> ?_) (fun h4=> ?_)<;>(try simp only[vT]at h4)
 ·rw[k0h h1 h2 h4]
  refine zD (zr ?_)
  refine zP ?_
  refine za 3 ?_
  refine zc (zJ (zn (xj (xx ?_))))
  refine wa zm zl (⟨rfl,rfl⟩)
 rw[h0S h1 h2 h4]
 refine y6 (zn (zD (zr ?_)))
 refine zC ?_
 refine za 3 ?_
 refine zc (zJ (zn (xj ?_)))
 refine AQ.retCT rfl rfl rfl mM (by(dsimp only[List.set,cA,cN,List.take,List.drop];rfl)) rfl nS (⟨rfl,rfl⟩)
theorem t0Y {c:Cmp}(h:j0U c):(d0w c).2=0:=by
 unfold d0w
 rw[if_neg (fun g=>g h)]
 split<;>rfl
theorem f0M (kid:List UInt8)(piv:Int):(i0F kid piv).1.length≤1000:=by
 unfold i0F
 split
 ·simp
 rename_i h
 split
 ·simp
 have hpl:=c0Y piv
 have hxl:=f0L (kid:=kid) (pb:=b0T piv) (by omega) hpl
 show(g0U [l0e i0E,c0H [],c0H (j0P kid (b0T piv))]).length≤1000
 have hsl:(c0H (j0P kid (b0T piv))).length=1+(j0P kid (b0T piv)).length:=by rw[c0H,b0o hxl,cH];rfl
 have h4:(l0e i0E).length=9:=rfl
 have h5:(c0H []).length=1:=rfl
 rw[g0U,b0o (by show 3<24;omega),cH]
 simp only[List.flatten_cons,List.flatten_nil,cP,cH,cL,cE]
 omega
abbrev s0G (c:Cx)(piv:Int):Cmp:=⟨piv,true,c.inp.snd,c.inp.has,c.inp.ctx,false⟩
theorem s0F {c:Cx}{piv:Int}(h:f0u c)(h2:f0z piv):(d0w (s0G c piv)).2=0:=by
 obtain⟨⟨⟨h3,h4,h5,h6,h7⟩,h8,h9,h10⟩, -⟩:=h
 refine t0Y ⟨⟨by show -1≤piv;omega,by show piv≤_;omega,by show(c.inp.snd.length:Int)≤7;omega,by show(c.inp.ctx.length:Int)≤16;omega⟩,.inl rfl,?_⟩
 rcases h7 with h7|h7
 ·exact .inl h7
 exact .inr (by show(c.inp.ctx.length:Int)=0;omega)
def m0v (c:Cx)(m:Msg)(piv:Int):Msg×Int:=o0B m (s0G c piv) c.sk (b0S c.com c.inp.snd piv).1 (i0F c.inp.snd piv).1
def n0u (c:Cx)(m:Msg)(piv:Int):Msg×Bd×Int:=
 if ¬(f0u c∧p0X m.code)then(Msg.none,Bd.none,1)else if ¬f0z piv then(Msg.none,Bd.none,8)else
 if(m0v c m piv).2≠0 then(Msg.none,Bd.none,(m0v c m piv).2)else((m0v c m piv).1,⟨c.inp.ctx,c.inp.snd,piv⟩,0)
abbrev w0x (r:Msg×Bd×Int):AV:= .tup [b0c r.1,p0S r.2.1,.val (.int .i64 r.2.2)]
theorem r0X {c:Cx}{m:Msg}{piv:Int}(h: ¬(f0u c∧p0X m.code)):n0u c m piv=(Msg.none,Bd.none,1):=if_pos h
theorem r0W {c:Cx}{m:Msg}{piv:Int}(h:f0u c∧p0X m.code)(h2: ¬f0z piv):n0u c m piv=(Msg.none,Bd.none,8):=(if_neg (fun g=>g h)).trans (if_pos h2)
theorem o0m {c:Cx}{m:Msg}{piv:Int}(h:f0u c∧p0X m.code)(h2:f0z piv)(h3:(m0v c m piv).2≠0):n0u c m piv=(Msg.none,Bd.none,(m0v c m piv).2):=(if_neg (fun g=>g h)).trans ((if_neg (fun g=>g h2)).trans (if_pos h3))
theorem o0l {c:Cx}{m:Msg}{piv:Int}(h:f0u c∧p0X m.code)(h2:f0z piv)(h3:(m0v c m piv).2=0):n0u c m piv=((m0v c m piv).1,⟨c.inp.ctx,c.inp.snd,piv⟩,0):=(if_neg (fun g=>g h)).trans ((if_neg (fun g=>g h2)).trans (if_neg (fun g=>g h3)))
theorem k0v (c:Cx)(m:Msg)(piv:Int):Sp Tryz.prog 16 [j0N c,b0c m,.val (.int .i64 piv)] [] (Is (w0x (n0u c m piv))):=by
 refine yX Tryz.func16 _ Tryz.ntmps16 (fun w0 R0=> ?_)
 refine zD (zr ?_)
 refine yo ?_
 intro B1
 refine yo ?_
 intro B2
 refine zd ?_
 intro B3
 refine zd ?_
 intro B4
 refine zc (zJ (zn (zD (zD (zr ?_)))))
 refine zA ?_
 refine vO (xM rfl Tryz.func27 rfl rfl rfl (j0e c)) ?_
 refine xu ?_
 refine zb ?_
 refine zN ?_
 refine yn 20 ?_
 refine AO.opG rfl rfl rfl (fun hp=>ve 21 rfl (by exact hp) (xM rfl Tryz.func57 rfl rfl rfl (o0K _))) ?_
 refine xc 22 ?_
 refine zI (zJ (zn ?_))
 refine yt (fun h1=> ?_) (fun h1=> ?_)<;>(try simp only[vT]at h1)
 ·rw[r0X (fun g=>by rcases h1 with h|h;exact h g.1;exact h g.2)]
  refine zD (zr ?_)
  refine zP ?_
  refine zP ?_
  refine za 1 ?_
  refine za 0 ?_
  refine zc (zJ (zn (xj (xx ?_))))
  refine wa yL zl (⟨rfl,rfl⟩)
 have h1':f0u c∧p0X m.code:=h1
 obtain⟨⟨⟨k1,k2,k3,k4,k5⟩,k6,k7,k8⟩,k9,k10,k11⟩:=h1'.1
 refine y6 (zn (zD (zD (zr ?_))))
 refine zb ?_
 refine vO (xM rfl Tryz.func58 rfl rfl rfl (t0D _)) ?_
 refine xu (zJ (zn ?_))
 refine yt (fun h2=> ?_) (fun h2=> ?_)<;>(try simp only[vT]at h2)
 ·rw[r0W h1' h2]
  refine zD (zr ?_)
  refine zP ?_
  refine zP ?_
  refine za 1 ?_
  refine za 0 ?_
  refine zc (zJ (zn (xj (xx ?_))))
  refine wa yL zl (⟨rfl,rfl⟩)
 have h2':f0z piv:=h2
 have hal:=f0M c.inp.snd piv
 have hpr:Sp Tryz.prog 61 [j0N c,b0c m,q0e (s0G c piv),roB (b0S c.com c.inp.snd piv).1,roB (i0F c.inp.snd piv).1] [] (Is (i0S (m0v c m piv))):=m0D c m _ _ _ (s0F h1'.1 h2') (by omega)
 refine y6 (zn (zD (zr ?_)))
 refine zq ?_
 refine zp ?_
 refine zq ?_
 refine zq ?_
 refine zp ?_
 refine zb ?_
 refine vO (xM rfl Tryz.func59 rfl rfl rfl (i0h _ _ _ (by omega))) ?_
 refine zb ?_
 refine zK ?_
 refine zK ?_
 refine zc ?_
 refine zc (zJ (zn (zD (zr ?_))))
 refine zq ?_
 refine zq ?_
 refine zp ?_
 refine zb ?_
 refine vO (xM rfl Tryz.func60 rfl rfl rfl (k0O _ _)) ?_
 refine zb ?_
 refine zK ?_
 refine zK ?_
 refine zc ?_
 refine zc (zJ (zn (zD (zr ?_))))
 refine zb ?_
 refine zq ?_
 refine zq ?_
 refine zp ?_
 refine zq ?_
 refine zq ?_
 refine zp ?_
 refine zq ?_
 refine zq ?_
 refine zp ?_
 refine zP ?_
 refine zd ?_
 intro B5
 refine za 0 (zJ (zn (zD (zr ?_))))
 refine zA ?_
 refine zA ?_
 refine zC ?_
 refine zb ?_
 refine zb ?_
 refine vO (xM rfl Tryz.func61 rfl rfl rfl hpr) ?_
 refine zb ?_
 refine zK ?_
 refine zK ?_
 refine zd ?_
 intro B6
 refine za 0 ?_
 refine zc (zJ (zn (zD (zD (zr ?_)))))
 refine zb ?_
 refine y2 (zJ (zn ?_))
 refine yt (fun h3=> ?_) (fun h3=> ?_)<;>(try simp only[vT]at h3)
 ·rw[o0m h1' h2' h3]
  refine zD (zr ?_)
  refine zP ?_
  refine zP ?_
  refine zb ?_
  refine za 3 ?_
  refine za 2 ?_
  refine zc (zJ (zn (xj (xx ?_))))
  refine wa y5 zl (⟨rfl,rfl⟩)
 rw[o0l h1' h2' h3]
 refine y6 (zn (zD ?_))
 refine AW.regionM [(0,false),(1,false),(2,false),(3,false),(4,false),(5,false),(6,false),(7,false),(8,false),(9,false),(10,false),(11,true),(12,true),(13,false)] (by kernel_rfl) (by kernel_rfl) (by exact(by exact a0K 6 3 rfl rfl (by exact a0K 7 2 rfl rfl a0g))) ?_
 dsimp only[List.eraseIdx]
 refine yJ ?_
 refine y1 ?_
 refine y1 ?_
 refine yu ?_
 refine vQ rfl (xM rfl Tryz.func62 rfl rfl rfl (h0r _ (by omega))) ?_
 refine y1 ?_
 refine y1 ?_
 refine yu ?_
 refine vQ rfl (xM rfl Tryz.func62 rfl rfl rfl (h0r _ (by omega))) ?_
 refine yW ?_
 refine xP ?_
 refine xN _ (fun w0 R0=> ?_)
 refine za 0 (vI ?_)
 dsimp only[a0q]
 refine xN _ (fun w0 R0=> ?_)
 refine za 1 (vI ?_)
 dsimp only[a0q]
 refine wb ?_
 refine vd ?_
 dsimp only[cA,cN]
 refine zn (xj ?_)
 refine wa z6 yR (⟨rfl,rfl⟩)
theorem o0d (n:Int):rq n=decide (p0X n):=by unfold rq;rw[Bool.eq_iff_iff];simp
theorem k0k (c:Cx)(m:Msg)(piv:Int)(hrq:Sp Tryz.prog 63 [.val (.int .i64 m.code)] [] (Is (.val (.bool (decide (p0X m.code)))))):Sp Tryz.prog 17 [j0N c,b0c m,.val (.int .i64 piv)] [] (Is (w0x (n0u c m piv))):=by
 refine yX Tryz.func17 _ Tryz.ntmps17 (fun w0 R0=> ?_)
 refine zD (zr ?_)
 refine yo ?_
 intro B1
 refine yo ?_
 intro B2
 refine zd ?_
 intro B3
 refine zd ?_
 intro B4
 refine zc (zJ (zn (zD (zD (zr ?_)))))
 refine zA ?_
 refine vO (xM rfl Tryz.func28 rfl rfl rfl (h0k c)) ?_
 refine xu ?_
 refine zb ?_
 refine zN ?_
 refine yn 21 ?_
 refine AO.opG rfl rfl rfl (fun hp=>ve 22 rfl (by exact hp) (xM rfl Tryz.func63 rfl rfl rfl hrq)) ?_
 refine xc 23 ?_
 refine zI (zJ (zn ?_))
 refine yt (fun h1=> ?_) (fun h1=> ?_)<;>(try simp only[vT]at h1)
 ·rw[r0X (fun g=>by rcases h1 with h|h;exact h g.1;exact h g.2)]
  refine zD (zr ?_)
  refine zP ?_
  refine zP ?_
  refine za 1 ?_
  refine za 0 ?_
  refine zc (zJ (zn (xj (xx ?_))))
  refine wa yL zl (⟨rfl,rfl⟩)
 have h1':f0u c∧p0X m.code:=h1
 obtain⟨⟨⟨k1,k2,k3,k4,k5⟩,k6,k7,k8⟩,k9,k10,k11⟩:=h1'.1
 refine y6 (zn (zD (zD (zr ?_))))
 refine zb ?_
 refine vO (xM rfl Tryz.func64 rfl rfl rfl (t0e _)) (zJ (zn ?_))
 refine yt (fun h2=> ?_) (fun h2=> ?_)<;>(try simp only[vT]at h2)
 ·rw[r0W h1' h2]
  refine zD (zr ?_)
  refine zP ?_
  refine zP ?_
  refine za 1 ?_
  refine za 0 ?_
  refine zc (zJ (zn (xj (xx ?_))))
  refine wa yL zl (⟨rfl,rfl⟩)
 have h2':f0z piv:=by exact h2
 have hal:=f0M c.inp.snd piv
 refine y6 (zn (zD (zr ?_)))
 refine zA ?_
 refine vO (xM rfl Tryz.func65 rfl rfl rfl (o0c m)) ?_
 refine zb ?_
 refine zK ?_
 refine zK ?_
 refine zK ?_
 refine zd ?_
 intro B5
 refine zd ?_
 intro B6
 refine za 1 ?_
 refine za 0 ?_
 refine zc (zJ (zn (zD (zD (zr ?_)))))
 refine zb ?_
 refine y2 (zJ (zn ?_))
 refine yt (fun h0=> ?_) (fun h0=> ?_)<;>(try simp only[vT]at h0)
 ·have e:m0v c m piv=(Msg.none,(a0u m).2.2):=k0t h0
  rw[o0m h1' h2' (by rw[e];exact h0),e]
  refine zD (zr ?_)
  refine zP ?_
  refine zP ?_
  refine zb ?_
  refine za 3 ?_
  refine za 2 ?_
  refine zc (zJ (zn (xj (xx ?_))))
  refine wa y5 zl (⟨rfl,rfl⟩)
 have e:m0v c m piv=h0T (a0u m).2.1 (a0u m).1 (s0G c piv) c.sk (b0S c.com c.inp.snd piv).1 (i0F c.inp.snd piv).1:=h0Z h0
 have hsl:Sp Tryz.prog 68 [b0c (a0u m).2.1,b0c (a0u m).1,q0e (s0G c piv),roB c.sk,roB (b0S c.com c.inp.snd piv).1,roB (i0F c.inp.snd piv).1] [] (Is (i0S (m0v c m piv))):=by
  rw[e];exact o0a _ _ _ _ _ _ (l0h m) (by omega)
 refine y6 (zn (zD (zr ?_)))
 refine zq ?_
 refine zp ?_
 refine zq ?_
 refine zq ?_
 refine zp ?_
 refine zb ?_
 refine vO (xM rfl Tryz.func66 rfl rfl rfl (g0c _ _ _ (by omega))) ?_
 refine zb ?_
 refine zK ?_
 refine zK ?_
 refine zc ?_
 refine zc (zJ (zn (zD (zr ?_))))
 refine zq ?_
 refine zq ?_
 refine zp ?_
 refine zb ?_
 refine vO (xM rfl Tryz.func67 rfl rfl rfl (k0s _ _)) ?_
 refine zb ?_
 refine zK ?_
 refine zK ?_
 refine zc ?_
 refine zc (zJ (zn (zD (zr ?_))))
 refine zC ?_
 refine zA ?_
 refine zb ?_
 refine zq ?_
 refine zq ?_
 refine zp ?_
 refine zq ?_
 refine zq ?_
 refine zp ?_
 refine zq ?_
 refine zq ?_
 refine zp ?_
 refine zP ?_
 refine zq ?_
 refine zp ?_
 refine zb ?_
 refine zb ?_
 refine vO (xM rfl Tryz.func68 rfl rfl rfl hsl) ?_
 refine zb ?_
 refine zK ?_
 refine zK ?_
 refine zd ?_
 intro B7
 refine za 0 ?_
 refine zc (zJ (zn (zD (zD (zr ?_)))))
 refine zb ?_
 refine y2 (zJ (zn ?_))
 refine yt (fun h3=> ?_) (fun h3=> ?_)<;>(try simp only[vT]at h3)
 ·rw[o0m h1' h2' h3]
  refine zD (zr ?_)
  refine zP ?_
  refine zP ?_
  refine zb ?_
  refine za 4 ?_
  refine za 3 ?_
  refine zc (zJ (zn (xj (xx ?_))))
  refine wa y5 zl (⟨rfl,rfl⟩)
 rw[o0l h1' h2' h3]
 refine y6 (zn (zD ?_))
 refine AW.regionM [(0,false),(1,false),(2,false),(3,false),(4,false),(5,false),(6,false),(7,false),(8,false),(9,false),(10,false),(11,true),(12,true),(13,false)] (by kernel_rfl) (by kernel_rfl) (by exact(by exact a0K 6 4 rfl rfl (by exact a0K 7 3 rfl rfl a0g))) ?_
 dsimp only[List.eraseIdx]
 refine yJ ?_
 refine y1 ?_
 refine y1 ?_
 refine yu ?_
 refine vQ rfl (xM rfl Tryz.func69 rfl rfl rfl (a0p _ (by omega))) ?_
 refine y1 ?_
 refine y1 ?_
 refine yu ?_
 refine vQ rfl (xM rfl Tryz.func69 rfl rfl rfl (a0p _ (by omega))) ?_
 refine yW ?_
 refine xP ?_
 refine xN _ (fun w0 R0=> ?_)
 refine za 0 (vI ?_)
 dsimp only[a0q]
 refine xN _ (fun w0 R0=> ?_)
 refine za 1 (vI ?_)
 dsimp only[a0q]
 refine wb ?_
 refine vd ?_
 dsimp only[cA,cN]
 refine zn (xj ?_)
 refine wa z6 yR (⟨rfl,rfl⟩)
end Go.Proofs.YtojomcdjcpmnkaaGreat.By
namespace Go.Proofs.YtojomcdjcpmnkaaGreat.By
open Go.RowKit L A
def oxK:List UInt8:= [240,145,14,215,41,94,106,212,181,79,199,147,21,67,2,255]
def oxN:List UInt8:= [70,34,212,221,109,148,65,104,238,251,84,152,104]
def oxA:List UInt8:= [131,104,69,110,99,114,121,112,116,48,64,72,133,1,129,10,64,65,20,64]
def oxP:List UInt8:= [1,179,116,118,49]
def oxW:List UInt8:= [240,145,14,215,41,94,106,212,181,79,199,147,21,67,2,255,235,230,24,142,194,184,114,90,119,247,181,201,98,180,183,54,100,79,29,36,166,247,111,126,209,0,218,183,179,180,109,129,237,115,17,73,75,132,126,55,154,132,164,128,41,48,201,1,225,174,109,236,170,42,19,219,48,174,183,91,25,158,126,90,250,93,211,56,80,119,192,227,96,217,119,184,121,71,9,226,122,92,75,142,42,43,139,109,74,242,252,213,51,181,245,55,239,186,209,77,197,145,90,32,143,99,166,245,188,214,83,194,153,87,244,40,92,198,174,8,211,165,8,253,111,115,91,63,13,110,129,128,81,168,47,136,130,13,39,117,237,126,124,74,200,126,87,213,153,214,120,93,27,219,95,40,246,165,35,98]
def oxA1:List (List UInt8):= [[241,215,44,3,244,51,254,149,221,161,60,199,141,43,2,254],[188,71,97,51,253,129,156,51,189,118,25,69,183,229,216,243],[99,88,208,73,228,179,159,70,121,58,226,146,177,81,113,195],[1,207,222,246,154,51,135,217,175,65,205,84,136,21,23,109],[198,175,247,110,237,198,21,255,1,119,242,254,56,76,126,208],[183,106,74,34,146,66,39,63,157,89,200,81,30,226,19,166],[139,170,105,226,28,253,91,55,230,147,18,147,204,93,110,214],[86,153,48,96,158,140,140,247,63,255,56,230,32,73,185,41],[238,130,219,210,246,203,116,238,24,194,246,141,217,33,67,112],[111,239,193,7,21,59,184,0,78,185,102,141,125,157,130,46],[96,156,100,228,192,128,107,152,52,133,39,75,9,122,79,63]]
def oxA0:List (List UInt8):= [[241,215,44,3,244,51,254,149,221,161,60,199,141,43,2,255],[17,234,141,114,253,129,156,51,189,118,25,69,183,229,216,243],[182,191,55,123,103,48,1,91,203,247,157,32,216,31,86,228],[74,190,92,19,114,56,137,56,92,140,31,137,56,114,154,163],[149,39,57,94,67,12,219,61,41,189,32,129,254,139,112,15],[118,36,232,227,227,50,234,86,67,23,162,45,238,163,3,89],[158,167,98,82,105,93,175,247,74,251,9,19,102,187,141,85],[208,214,139,254,96,145,22,98,223,247,109,4,58,171,73,72],[143,40,139,161,223,48,182,93,197,18,107,84,192,63,174,234],[31,19,154,123,224,186,253,120,59,74,90,84,176,94,14,165],[8,138,233,211,120,0,211,124,249,131,231,148,17,216,119,66]]
def oxB0:List (List UInt8):= [[169,215,44,3,244,51,254,149,221,161,60,199,141,43,2,250],[206,163,178,146,253,129,156,51,189,118,25,69,183,229,216,243],[164,182,62,96,104,63,16,69,161,73,73,74,84,30,219,105],[34,100,75,53,229,183,2,193,180,241,41,202,167,31,73,82],[153,128,6,78,86,113,188,6,161,14,15,84,103,169,19,98],[31,222,151,139,157,35,81,163,106,136,249,140,97,204,235,158],[25,107,153,124,21,251,159,216,17,239,160,4,100,108,18,25],[121,159,182,118,212,61,101,253,239,9,16,20,146,239,207,92],[7,160,52,144,125,49,160,43,22,89,104,190,48,188,64,151],[3,121,138,93,155,161,169,144,74,89,61,56,144,52,170,1],[179,76,112,169,141,29,212,17,205,195,33,72,150,19,240,101]]
def oxS2:List (List UInt8):= [[67,201,253,22,225,45,221,183,1,252,146,235,195,24,119,155],[247,146,120,31,80,120,2,130,158,159,44,253,106,138,253,145],[155,86,179,72,226,53,20,159,234,59,249,78,69,229,50,23],[13,16,177,129,44,244,180,225,73,198,86,11,232,29,136,166],[27,240,16,200,71,115,81,32,129,125,176,145,215,45,83,253],[134,145,218,18,20,246,125,193,118,140,238,203,186,163,170,180],[145,105,145,41,12,63,22,57,11,95,232,48,184,93,68,112],[163,54,251,153,214,98,169,188,158,90,238,97,55,158,68,192],[250,208,209,219,135,148,249,107,178,204,185,46,115,98,83,153],[137,19,11,68,246,188,98,126,72,72,71,70,208,144,249,75],[111,27,247,102,219,132,225,70,73,187,116,219,134,216,137,56]]
def oxS3:List (List UInt8):= [[30,128,185,240,230,154,139,146,252,244,179,72,147,155,139,199],[119,142,89,90,174,152,182,82,41,218,108,222,226,252,42,29],[171,98,249,101,215,55,212,156,128,152,66,56,224,209,87,95],[127,133,251,220,139,166,87,162,30,91,7,204,90,65,27,213],[244,99,15,102,178,9,195,29,127,234,22,53,204,179,60,217],[238,28,188,206,116,64,232,176,186,239,211,157,65,5,68,221],[150,13,254,0,255,186,118,9,134,152,155,9,84,253,37,18],[14,44,221,143,127,41,209,165,65,88,216,212,167,10,215,79],[197,138,175,25,32,161,159,231,160,182,127,201,50,199,210,4],[44,51,167,110,151,147,192,2,229,101,84,194,47,10,240,43],[185,162,119,36,17,155,244,194,194,188,3,95,227,102,153,71]]
def oxS4:List (List UInt8):= [[72,128,13,133,9,197,158,22,119,243,196,204,246,37,155,184],[206,171,96,26,84,8,244,117,87,89,3,171,234,33,243,160],[162,201,107,50,15,239,99,135,54,76,123,86,221,79,75,10],[165,232,31,55,76,77,57,113,111,4,226,90,134,247,240,6],[36,169,18,67,227,233,126,241,160,46,18,77,139,127,92,120],[193,171,173,214,113,192,90,159,190,103,52,193,125,42,36,88],[45,9,7,112,35,53,192,215,119,242,240,225,182,47,135,1],[21,166,24,220,79,214,40,118,138,230,197,61,97,183,96,64],[133,1,23,129,144,168,142,214,90,70,214,11,213,175,145,75],[32,212,237,107,242,232,24,235,104,188,26,210,93,133,76,124],[127,229,245,197,16,179,81,34,94,76,10,193,186,237,142,215]]
def v0i:List UInt8:= [97,47,16,146,241,119,111,28,22,104,179,130,94]
theorem x0M: ∀q,q<176→wK oxK q=oxW.getD q 0:=u0M (by decide +kernel) (by decide +kernel)
theorem o0G {f:Nat→UInt8}{ST:List (List UInt8)}(h0: ∀q,q<16→f q^^^oxW.getD q 0=kf (ST.getD 0 []) q)(h: ∀j,j<10→ ∀q,q<16→r0x oxW (ST.getD j []) j q=kf (ST.getD (j+1) []) q): ∀q,q<16→enc (wK oxK) f q=kf (ST.getD 10 []) q:=
 p0q x0M h0 h 10 (Nat.le_refl _)
theorem l0D {x:Nat→UInt8}{l X:List UInt8}{ST:List (List UInt8)}(hx: ∀q,q<16→x q=kf X q)(hl:l≠ [])(h0: ∀q,q<16→(kf X q^^^kf l q)^^^oxW.getD q 0=kf (ST.getD 0 []) q)(h: ∀j,j<10→ ∀q,q<16→r0x oxW (ST.getD j []) j q=kf (ST.getD (j+1) []) q):
  ∀q,q<16→absorb (wK oxK) x l q=absorb (wK oxK) (kf (ST.getD 10 [])) (l.drop 16) q:=fun q hq=>by
 rw[b0i hl]
 exact c0y _ _ _ _ (Nat.le_refl _) (o0G (f:=fun q=>x q^^^kf l q) (fun q hq=>by rw[hx q hq];exact h0 q hq) h) q hq
def oxB:List UInt8:=fnB 16 (c0m (k0D oxA oxN 8) oxN oxP.length)
theorem w0H: ∀q,q<16→absorb (wK oxK) (fun _=>0) oxB q=kf (oxB0.getD 10 []) q:=fun q hq=>by
 rw[l0D (x:=fun _=>0) (X:= []) (ST:=oxB0) (fun q _=>rfl) (by decide +kernel) (by decide +kernel) (by decide +kernel) q hq,show oxB.drop 16= [] by decide +kernel,a0W]
theorem w0G: ∀q,q<16→absorb (wK oxK) (absorb (wK oxK) (fun _=>0) oxB) (c0J oxA) q=kf (oxS3.getD 10 []) q:=fun q hq=>by
 rw[l0D (X:=oxB0.getD 10 []) (ST:=oxS2) w0H (by decide +kernel) (by decide +kernel) (by decide +kernel) q hq]
 rw[l0D (X:=oxS2.getD 10 []) (l:=(c0J oxA).drop 16) (ST:=oxS3) (fun q _=>rfl) (by decide +kernel) (by decide +kernel) (by decide +kernel) q hq,show((c0J oxA).drop 16).drop 16= [] by decide +kernel,a0W]
theorem w0F: ∀q,q<16→absorb (wK oxK) (absorb (wK oxK) (absorb (wK oxK) (fun _=>0) oxB) (c0J oxA)) oxP q=kf (oxS4.getD 10 []) q:=fun q hq=>by
 rw[l0D (X:=oxS3.getD 10 []) (ST:=oxS4) w0G (by decide +kernel) (by decide +kernel) (by decide +kernel) q hq,show oxP.drop 16= [] by decide +kernel,a0W]
theorem v0g: ∀q,q<16→j0n (wK oxK) oxN oxA oxP 8 q=kf (oxS4.getD 10 []) q:=fun q hq=>by
 rw[j0n,if_neg (by decide)];exact w0F q hq
theorem v0e: ∀q,q<16→e0I (wK oxK) oxN (j0n (wK oxK) oxN oxA oxP 8) q=kf (oxS4.getD 10 []) q^^^kf (oxA0.getD 10 []) q:=fun q hq=>by
 rw[e0I,v0g q hq,o0G (ST:=oxA0) (by decide +kernel) (by decide +kernel) q hq]
theorem v0f: ∀q,q<5→e0N (wK oxK) oxN oxP q=kf oxP q^^^kf (oxA1.getD 10 []) q:=fun q hq=>by
 rw[e0N,show q/16=0 by omega,show q%16=q by omega,o0G (ST:=oxA1) (by decide +kernel) (by decide +kernel) q (by omega)]
theorem t0u:e0Q oxK oxN oxA oxP 8=v0i:=by
 rw[(d0o (by decide +kernel) (by decide +kernel)).1]
 rw[show oxP.length=5 from rfl,c0g v0f,show(8:Int).toNat=8 from rfl,c0g fun q hq=>v0e q (by omega)]
 decide +kernel
theorem v0h:d0R oxK oxN oxA oxP 8=0:=(d0o (by decide +kernel) (by decide +kernel)).2
attribute [local irreducible] AW AQ AO
def oexI:Inp:=⟨l0X,s0j,false,[],[],[1]⟩
def x0O:List UInt8:= [0xff,0xb1,0x4e,0x09,0x3c,0x94,0xc9,0xca,0xc9,0x47,0x16,0x48,0xb4,0xf9,0x87,0x10]
def x0N:List UInt8:= [0x46,0x22,0xd4,0xdd,0x6d,0x94,0x41,0x68,0xee,0xfb,0x54,0x98,0x7c]
def oexC:Cx:=⟨oexI,oxK,x0O,x0N⟩
theorem t0I:f0n oexI:=of_decide_eq_true rfl
theorem t0H:u0C oexI=(oexC,0):=by
 rw[u0C,if_pos t0I]
 have e1:f0b oexI.snd oexI.ctx oexI.has p0c 16= [0x85,0x40,0xf6,0x0a,0x63,0x4b,0x65,0x79,0x10]:=by decide +kernel
 have e2:f0b oexI.rcp oexI.ctx oexI.has p0c 16= [0x85,0x41,0x01,0xf6,0x0a,0x63,0x4b,0x65,0x79,0x10]:=by decide +kernel
 have e3:f0b [] oexI.ctx oexI.has ivT 13= [0x85,0x40,0xf6,0x0a,0x62,0x49,0x56,0x0d]:=by decide +kernel
 have e0:j0T oexI.salt oexI.sec=p0o:=v0G
 unfold u0B
 rw[e0,e1,e2,e3,v0H,t0X,w0S]
 rfl
def u0A:Msg:=⟨0,1,23839,[0,0,57,116],[⟨3,[108,111,99,97,108,104,111,115,116]⟩,⟨11,[116,118,49]⟩],[]⟩
def oexO:Msg:=⟨0,2,23839,[0,0,57,116],[⟨3,[108,111,99,97,108,104,111,115,116]⟩,⟨9,[9,20]⟩],v0i⟩
theorem q0Z:ValM u0A:=of_decide_eq_true (by decide +kernel)
theorem q0Y:ValM oexO:=of_decide_eq_true (by decide +kernel)
theorem j0j:a0u u0A=(⟨0,1,0,[],[⟨11,[116,118,49]⟩],[]⟩,⟨0,2,23839,[0,0,57,116],[⟨3,[108,111,99,97,108,104,111,115,116]⟩],[]⟩,0):=by
 rw[a0u,if_pos ⟨q0Z,.inl (by decide +kernel)⟩,if_neg (by decide +kernel)]
 decide +kernel
theorem i0f:b0w ⟨0,1,0,[],[⟨11,[116,118,49]⟩],[]⟩=(oxP,0):=by decide +kernel
theorem j0k:(b0S oexC.com oexC.inp.snd 20).1=oxN:=by decide +kernel
theorem o0S:(i0F oexC.inp.snd 20).1=oxA:=by decide +kernel
theorem t0G:(d0w (s0G oexC 20)).1= [9,20]:=by decide +kernel
theorem l0H:m0v oexC u0A 20=(oexO,0):=by
 have e:o0I ⟨0,2,23839,[0,0,57,116],[⟨3,[108,111,99,97,108,104,111,115,116]⟩],[]⟩ ⟨0,1,0,[],[⟨11,[116,118,49]⟩],[]⟩ (s0G oexC 20) oexC.sk (b0S oexC.com oexC.inp.snd 20).1 (i0F oexC.inp.snd 20).1=oexO:=by
  unfold o0I
  rw[i0f,j0k,o0S,t0G,show oexC.sk=oxK from rfl,t0u]
  decide +kernel
 unfold m0v
 rw[h0Z (by rw[j0j]),j0j]
 rw[h0S (by rw[i0f]) (by rw[i0f,j0k,o0S];exact v0h) (by rw[e,e0A,if_pos q0Y])]
 rw[e]
theorem t0F:n0u oexC u0A 20=(oexO,⟨[],[],20⟩,0):=by
 have hok:f0u oexC:=of_decide_eq_true (by decide +kernel)
 rw[o0l ⟨hok,by decide⟩ (by decide) (by rw[l0H]),l0H]
 rfl
theorem h0E:Sp Tryz.prog 10 [] [] (Is (.val (.bool true))):=by
 have hder:=j0C oexI
 rw[t0H]at hder
 have hreq:Sp Tryz.prog 16 [j0N oexC,b0c u0A,.val (.int .i64 20)] [] (Is (.tup [b0c oexO,p0S ⟨[],[],20⟩,.val (.int .i64 0)])):=by
  have h:=k0v oexC u0A 20
  rw[t0F]at h
  exact h
 have hpl:oexO.pay.length=13:=rfl
 have hcd:oexO.code=2:=rfl
 refine yX Tryz.func10 _ Tryz.ntmps10 (fun w0 R0=> ?_)
 refine zD (zr ?_)
 refine zc (zJ (zn (zD (zr ?_))))
 refine xy ?_
 intro B1
 refine AO.g ?_
 refine yi 0 7 ?_
 refine wm 7 ?_
 refine AO.u ?_
 dsimp only[List.eraseIdx]
 refine xy ?_
 intro B2
 refine AO.g ?_
 refine yi 0 8 ?_
 refine wm 8 ?_
 refine AO.u ?_
 dsimp only[List.eraseIdx]
 refine zR ?_
 intro B3
 refine AO.g ?_
 refine yi 0 9 ?_
 refine wm 9 ?_
 refine AO.u ?_
 dsimp only[List.eraseIdx]
 refine zP ?_
 refine vO (vv rfl Tryz.func54 rfl rfl rfl hder) ?_
 refine zb ?_
 refine zK ?_
 refine zK ?_
 refine zd ?_
 intro B4
 refine y0 0 ?_
 refine zc (zJ (zn (zD (zr ?_))))
 refine vO vK ?_
 refine xy ?_
 intro B5
 refine AO.g ?_
 refine yi 0 16 ?_
 refine wm 16 ?_
 refine AO.u ?_
 dsimp only[List.eraseIdx]
 refine xy ?_
 intro B6
 refine AO.constBytes (i:=0) (l:= [108,111,99,97,108,104,111,115,116]) rfl rfl rfl (lB rfl) rfl rfl (by rfl) (by rfl) ⟨Nat.le_refl _,by unfold maxLen;omega⟩ ?_
 dsimp only[List.eraseIdx]
 refine zP ?_
 refine xy ?_
 intro B7
 refine AO.constBytes (i:=0) (l:= [116,118,49]) rfl rfl rfl (lB rfl) rfl rfl (by rfl) (by rfl) ⟨Nat.le_refl _,by unfold maxLen;omega⟩ ?_
 dsimp only[List.eraseIdx]
 refine zP ?_
 refine xy ?_
 intro B8
 refine AO.g ?_
 refine yi 0 23 ?_
 refine wm 23 ?_
 refine AO.u ?_
 dsimp only[List.eraseIdx]
 refine zP ?_
 refine vO (vv rfl Tryz.func16 rfl rfl rfl hreq) ?_
 refine zb ?_
 refine zK ?_
 refine zK ?_
 refine zK ?_
 refine zd ?_
 intro B9
 refine zd ?_
 intro B10
 refine y0 1 ?_
 refine y0 0 ?_
 refine zc (zJ (zn (zD (zr ?_))))
 refine zb ?_
 refine vO (O.eql rfl rfl rfl (by exact beq_iff_eq.2 (by omega))) ?_
 refine zb ?_
 refine zq ?_
 refine zv ?_
 refine vO (O.eql rfl rfl rfl (by exact beq_iff_eq.2 (by omega))) ?_
 refine vO (O.pickT rfl rfl rfl) ?_
 refine zb ?_
 refine zq ?_
 refine zp ?_
 refine zX ?_
 refine vO (O.eql rfl rfl rfl (by exact beq_iff_eq.2 (by omega))) ?_
 refine vO (O.pickT rfl rfl rfl) ?_
 refine zb ?_
 refine zq ?_
 refine zp ?_
 refine ye ?_
 refine vO (O.loadR rfl rfl (by rfl)) ?_
 refine z8 ?_
 refine vO (O.pickT rfl rfl rfl) ?_
 refine zb ?_
 refine zq ?_
 refine zp ?_
 refine ye ?_
 refine vO (O.loadR rfl rfl (by rfl)) ?_
 refine z8 ?_
 refine vO (O.pickT rfl rfl rfl) ?_
 refine zb ?_
 refine zq ?_
 refine zp ?_
 refine vO (O.eql rfl rfl rfl (by exact beq_iff_eq.2 (by omega))) ?_
 refine vO (O.pickT rfl rfl rfl) ?_
 refine zc (zJ (zn (xj ?_)))
 refine yM
end Go.Proofs.YtojomcdjcpmnkaaGreat.By
namespace Go.Proofs.YtojomcdjcpmnkaaGreat.By
open Go.RowKit L A Dk
attribute [local irreducible] AW AQ AO
def y0A (b:Nat)(l:List Int)(n:Nat):AV→List HE→Prop:=fun r H'=> ∃(V:Value) (x:List UInt8) (k':Nat),x.length≤n∧V.oneCell'=true∧k'≤l.length∧r= .val V∧H'= [.row V 5 1 x.length (a0a x),g0Y b l k']
theorem d0N (b:Nat)(l:List Int)(k:Nat)(n:Nat)(hl:l.length≤maxLen)(hk:k≤l.length)(hn:n≤1000000):
  Sp Tryz.prog 24 [ptr b,.val (.int .i64 (n:Int))] [g0Y b l k] (y0A b l n):=by
 refine yX Tryz.func24 _ Tryz.ntmps24 (fun w0 R0=> ?_)
 refine zD (zr ?_)
 refine zc (zJ (zn (zD (zr ?_))))
 refine zc (zJ (zn (zD (zD (zr ?_)))))
 refine zb ?_
 refine zb ?_
 refine zB ?_
 refine AO.callMG 0 rfl rfl Tryz.func33 rfl rfl rfl rfl rfl rfl (b0q _ l _ _ hl (by assumption) (by omega) (by omega)) ?_
 rintro _ _ ⟨⟨z1,hz01,hz11,rfl⟩,kd1,hkd1,rfl⟩
 dsimp only[cA,cN,List.eraseIdx]
 refine zc (zJ (zn (xo ?_)))
 obtain⟨c,rfl⟩: ∃c:Nat,z1=(c:Int):=⟨z1.toNat,by omega⟩
 refine AW.g ?_
 refine G.nilRow 5 1 ?_
 refine AW.u ?_
 refine AW.loopK [(0,_)] (fun nn E H=> ∃(c':Nat) (out:List UInt8) (V:Value) (kk:Nat),(out.length+c'≤n)∧(V.oneCell'=true)∧(kk≤l.length)∧c'=nn∧E= [(5,.val V),(6,.val (.int .i64 (c':Int)))]∧H= [.row V 5 1 out.length (a0a out),g0Y b l kk]) _ (⟨c,[],.slice none 0 0,_,by simp<;>omega,rfl,‹_›,rfl,rfl,rfl⟩) (by repeat(first|exact a0l|refine a0j rfl ?_)) (by repeat(first|exact a0l|refine a0j rfl ?_)) (by repeat(first|exact a0H|refine a0B 0 rfl ?_)) ?_
 rintro nn E H ⟨c',out,V,kk,h1,hV,h3,rfl,rfl,rfl⟩
 dsimp only[cA,cN]
 refine zD (zD (zr ?_))
 refine zb ?_
 refine yZ (zJ (zn ?_))
 refine yt (fun h=> ?_) (fun h=> ?_)<;>(try simp only[vT]at h)
 ·obtain⟨j,rfl⟩: ∃j,c'=j+1:=⟨c'-1,by omega⟩
  refine y6 (zn (zD (xo (zr ?_))))
  refine zb ?_
  refine zb ?_
  refine AO.callMG 1 rfl rfl Tryz.func33 rfl rfl rfl rfl rfl rfl (b0q _ l _ _ hl (by assumption) (by omega) (by omega)) ?_
  rintro _ _ ⟨⟨z2,hz02,hz12,rfl⟩,kd2,hkd2,rfl⟩
  dsimp only[cA,cN,List.eraseIdx]
  refine xg ?_
  refine zR ?_
  intro B3
  refine AO.g ?_
  refine yi 0 19 ?_
  refine wm 19 ?_
  refine AO.u ?_
  dsimp only[List.eraseIdx]
  refine zy 1 ?_
  intro V4 hV4
  refine zc (zJ (xE (zn (zr ?_))))
  refine zb ?_
  refine yN ?_
  refine zc (zJ ?_)
  rw[show((j+1:Nat):Int)-1=(j:Int) by omega]
  refine AQ.loopKN _ _ _ (by omega) (⟨j,out++[u8 z2],V4,kd2,by simp;omega,hV4,hkd2,rfl,rfl,by rw[a0U,cH]<;>rfl⟩) (by repeat(first|exact a0l|refine a0j rfl ?_)) (by repeat(first|exact a0l|refine a0j rfl ?_)) (by repeat(first|exact a0H|refine a0B 0 rfl ?_|refine a0B 1 rfl ?_))
 refine wj ?_
 refine x8 ?_
 refine wd ?_
 refine xD (zn (zD (zr ?_)))
 refine zb ?_
 refine zc (zJ (zn (xj ?_)))
 refine vz rfl rfl ⟨_,by repeat(first|exact List.Sublist.slnil|refine List.Sublist.cons_cons _ ?_),List.Perm.refl _⟩ (⟨V,out,_,by omega,hV,h3,rfl,rfl⟩)
def x0h (r:AV):Prop:= ∃x,f0n x∧r=v0W x
theorem p0e (b:Nat)(l:List Int)(k:Nat)(hl:l.length≤maxLen)(hk:k≤l.length):Sp Tryz.prog 55 [ptr b,.val (.bool true)] [g0Y b l k] (Gen b l x0h):=by
 refine yX Tryz.func55 _ Tryz.ntmps55 (fun w0 R0=> ?_)
 refine zD (zr ?_)
 refine yh ?_
 intro B1
 refine zJ (zn (zD (zr ?_)))
 refine zb ?_
 refine AO.callMG 1 rfl rfl Tryz.func33 rfl rfl rfl rfl rfl rfl (b0q _ l _ _ hl (by assumption) (by omega) (by omega)) ?_
 rintro _ _ ⟨⟨z2,hz02,hz12,rfl⟩,kd2,hkd2,rfl⟩
 dsimp only[cA,cN,List.eraseIdx]
 refine zb ?_
 refine AO.callMG 0 rfl rfl Tryz.func33 rfl rfl rfl rfl rfl rfl (b0q _ l _ _ hl (by assumption) (by omega) (by omega)) ?_
 rintro _ _ ⟨⟨z3,hz03,hz13,rfl⟩,kd3,hkd3,rfl⟩
 dsimp only[cA,cN,List.eraseIdx]
 refine zB ?_
 refine vO (xM rfl Tryz.func107 rfl rfl rfl (s0P _ _ ⟨by omega,by omega⟩)) ?_
 refine zb ?_
 refine AO.callMG 0 rfl rfl Tryz.func24 rfl rfl rfl rfl rfl rfl (d0N _ l _ 8 hl (by assumption) (by omega)) ?_
 rintro _ _ ⟨V4,x4,kd4,hx4,hV4,hkd4,rfl,rfl⟩
 dsimp only[cA,cN,List.eraseIdx]
 refine zb ?_
 refine AO.callMG 1 rfl rfl Tryz.func24 rfl rfl rfl rfl rfl rfl (d0N _ l _ 3 hl (by assumption) (by omega)) ?_
 rintro _ _ ⟨V5,x5,kd5,hx5,hV5,hkd5,rfl,rfl⟩
 dsimp only[cA,cN,List.eraseIdx]
 refine zb ?_
 refine AO.callMG 1 rfl rfl Tryz.func24 rfl rfl rfl rfl rfl rfl (d0N _ l _ 3 hl (by assumption) (by omega)) ?_
 rintro _ _ ⟨V6,x6,kd6,hx6,hV6,hkd6,rfl,rfl⟩
 dsimp only[cA,cN,List.eraseIdx]
 refine vO (O.build rfl rfl (by(show(V4.oneCell'&&(V5.oneCell'&&(V6.oneCell'&&true)))=true;rw[hV4,hV5,hV6];rfl)) (by rfl)) ?_
 refine yh ?_
 intro B7
 refine AO.store (i:=0) rfl rfl rfl rfl rfl rfl (by(show(true&&(V4.oneCell'&&(true&&(true&&(V5.oneCell'&&(V6.oneCell'&&true))))))=true;rw[hV4,hV5,hV6];rfl)) (by rfl) (by rfl) (by(dsimp only[List.set,List.append,cA,cN,a0w,a0v,a0y,a0e,a0A,AV.cells,List.map,List.map_cons,List.map_nil,List.take,List.drop,Nat.zero_add,Nat.add_zero,Nat.reduceAdd,Nat.reduceMul,Nat.zero_mul,Value.cells,List.toList_toArray,a0x,List.replicate,List.flatten,cP];done)) (by(dsimp only[List.set,List.append,cA,cN,a0w,a0v,a0y,a0e,a0A,AV.cells,List.map,List.map_cons,List.map_nil,List.take,List.drop,Nat.zero_add,Nat.add_zero,Nat.reduceAdd,Nat.reduceMul,Nat.zero_mul,Value.cells,List.toList_toArray,a0x,List.replicate,List.flatten,cP];done)) (zJ (zn (zD (zD (zr ?_)))))
 refine zq ?_
 refine AO.g ?_
 refine G.freezeCell 3 0 4 rfl rfl rfl ?_
 dsimp only[List.eraseIdx,List.set]
 refine G.freezeCell 3 0 1 rfl rfl rfl ?_
 dsimp only[List.eraseIdx,List.set]
 refine G.coeCell 0 3 rfl rfl Coe.nil ?_
 dsimp only[List.set]
 refine AO.u ?_
 refine zv ?_
 refine zq ?_
 refine zv ?_
 refine vO (O.callL rfl Tryz.func31 rfl rfl rfl mM (c0b _ _) (by(repeat(first|exact LendL.nil|refine LendL.same ?_|refine LendL.lend ?_));done)) ?_
 refine zJ (zn ?_)
 have hse:(n0P z2 (1+z3).toNat).length=(1+z3).toNat:=n0O _ _
 generalize n0P z2 (1+z3).toNat=sec at*
 refine xY [(0,_),(1,_),(4,_),(5,_)] (fun E H=> ∃(V:Value) (rc:List UInt8),(V.oneCell'=true)∧(rc.length≤4)∧(¬x5=rc)∧E= []∧H= [.blk B7 24 6 [roB sec,roB x4,.val (.bool false),roB [],roB x5,.val V],.row V 5 1 rc.length (a0a rc),g0Y b l kd6,.blk B1 24 6 [.val (.slice none 0 0),.val (.slice none 0 0),.val (.bool false),.val (.slice none 0 0),.val (.slice none 0 0),.val (.slice none 0 0)]]) (fun heq=> ?_) (fun heq=> ?_) ?_<;>try(try simp only[vT]at heq)
 ·have hgu:a0a (x6++[9])=a0a x6++[.val (.int .u8 9)]:=b0A x6 9
  refine zr ?_
  refine zq ?_
  refine zv ?_
  refine zR ?_
  intro B8
  refine AO.g ?_
  refine yi 0 26 ?_
  refine wm 26 ?_
  refine AO.u ?_
  dsimp only[List.eraseIdx]
  refine y7 1 ?_
  intro V9 hV9
  refine zq ?_
  refine yx 0 (zJ ?_)
  rw[←hgu,show x6.length+1=(x6++[9]).length by simp]
  refine xw _ _ (⟨_,x6++[9],‹_›,by simp;omega,(fun e=>by have:=congrArg List.length e;simp at this;rw[heq]at this;omega),rfl,rfl⟩)
 ·refine y6 ?_
  refine xw _ _ (⟨V6,x6,hV6,by omega,heq,rfl,rfl⟩)
 rintro E1 H1 ⟨V,rc,hV,hrl,hne,rfl,rfl⟩
 dsimp only[cA,cN]
 refine zn ?_
 refine AW.g ?_
 refine G.freezeCell 1 0 5 rfl rfl rfl ?_
 refine AW.u ?_
 refine AW.g ?_
 dsimp only[List.eraseIdx,List.set]
 refine AW.u (zD (zD (zr ?_)))
 refine zb ?_
 refine zb ?_
 refine zb ?_
 refine AO.callMGw 1 rfl rfl Tryz.func33 rfl rfl rfl rfl rfl rfl (b0q _ l _ _ hl (by assumption) (by omega) (by omega)) ?_;rintro _ _ ⟨⟨z10,hz010,hz110,rfl⟩,kd10,hkd10,rfl⟩;dsimp only[cA,cN,List.eraseIdx]
 refine z8 ?_
 refine vO (O.pickT rfl rfl rfl) (zJ (zn ?_))
 refine yt (fun hz=> ?_) (fun hz=> ?_)<;>(try simp only[vT]at hz)
 ·refine zr ?_
  refine zb ?_
  refine AO.callMG 0 rfl rfl Tryz.func24 rfl rfl rfl rfl rfl rfl (d0N _ l _ 5 hl (by assumption) (by omega)) ?_
  rintro _ _ ⟨V11,x11,kd11,hx11,hV11,hkd11,rfl,rfl⟩
  dsimp only[cA,cN,List.eraseIdx]
  refine zq ?_
  refine zo 2 ?_
  refine zq ?_
  refine AO.g ?_
  refine yf 0 [36] ?_
  dsimp only[List.map,List.eraseIdx,cA,cN]
  refine AO.u ?_
  refine zo 1 (zJ (zn (zD (zr ?_))))
  refine wY ?_
  refine zo 2 (zJ (zn (xj ?_)))
  refine AQ.retCell rfl rfl mM (by rfl) rfl ⟨_,by repeat(first|exact List.Sublist.slnil|refine List.Sublist.cons_cons _ ?_|refine List.Sublist.cons _ ?_),List.Perm.refl _⟩ (⟨⟨⟨sec,x4,true,x11,x5,rc⟩,⟨⟨by show 1≤sec.length;omega,by show sec.length≤64;omega,by show x4.length≤64;omega,by show x11.length≤16;omega,.inl rfl⟩,by show x5.length≤7;omega,by show rc.length≤7;omega,hne⟩,rfl⟩,_,hkd11,rfl⟩)
 refine y6 (zn (zD (zr ?_)))
 refine wY ?_
 refine zo 2 (zJ (zn (xj ?_)))
 refine AQ.retCell rfl rfl mM (by rfl) rfl ⟨_,by repeat(first|exact List.Sublist.slnil|refine List.Sublist.cons_cons _ ?_|refine List.Sublist.cons _ ?_),List.Perm.refl _⟩ (⟨⟨⟨sec,x4,false,[],x5,rc⟩,⟨⟨by show 1≤sec.length;omega,by show sec.length≤64;omega,by show x4.length≤64;omega,by show([]:List UInt8).length≤16;simp,.inr rfl⟩,by show x5.length≤7;omega,by show rc.length≤7;omega,hne⟩,rfl⟩,_,hkd10,rfl⟩)
def y0y (r:AV):Prop:= ∃c,f0u c∧r=j0N c
theorem k0N (b:Nat)(l:List Int)(k:Nat)(hl:l.length≤maxLen)(hk:k≤l.length):Sp Tryz.prog 12 [ptr b,.val (.bool true)] [g0Y b l k] (Gen b l y0y):=by
 have hder: ∀x,f0n x→Sp Tryz.prog 54 [v0W x] [] (Is (.tup [j0N (u0B x),.val (.int .i64 0)])):=fun x hx=>by
  have h:=j0C x
  rw[show u0C x=(u0B x,0)from if_pos hx]at h
  exact h
 refine yX Tryz.func12 _ Tryz.ntmps12 (fun w0 R0=> ?_)
 refine zD (zr ?_)
 refine zd ?_
 intro B1
 refine zJ (zn (zD (zr ?_)))
 refine zb ?_
 refine zb ?_
 refine AO.callMG 1 rfl rfl Tryz.func55 rfl rfl rfl rfl rfl rfl (p0e _ l _ hl hk) ?_
 rintro _ _ ⟨⟨x2,hx2,rfl⟩,kd2,hkd2,rfl⟩
 dsimp only[cA,cN,List.eraseIdx]
 refine vO (xM rfl Tryz.func54 rfl rfl rfl (hder _ (by assumption))) ?_
 refine zb ?_
 refine zK ?_
 refine zK ?_
 refine zd ?_
 intro B3
 refine za 0 ?_
 refine zc (zJ (zn (zD (zr ?_))))
 refine zC ?_
 refine za 2 (zJ (zn (xj ?_)))
 refine AQ.retCell rfl rfl mM (by rfl) rfl ⟨_,by repeat(first|exact List.Sublist.slnil|refine List.Sublist.cons_cons _ ?_|refine List.Sublist.cons _ ?_),List.Perm.refl _⟩ (⟨⟨_,u0a hx2,rfl⟩,_,hkd2,rfl⟩)
theorem p0H (b:Bd):Sp Tryz.prog 19 [p0S b,p0S b] [] (Is (.val (.bool true))):=by
 refine yX Tryz.func19 _ Tryz.ntmps19 (fun w0 R0=> ?_)
 refine zD (zr ?_)
 refine yo ?_
 intro B1
 refine yo ?_
 intro B2
 refine zc (zJ (zn (zD (zr ?_))))
 refine zq ?_
 refine zp ?_
 refine zq ?_
 refine zv ?_
 refine vO (xM rfl Tryz.func31 rfl rfl rfl (c0b _ _)) ?_
 refine zb ?_
 refine zN ?_
 refine yn 11 ?_
 refine zN ?_
 refine zw 13 ?_
 refine AO.opG rfl rfl rfl (fun hp=>ve 12 rfl (by exact hp) (ve 14 rfl (by exact hp) (xM rfl Tryz.func31 rfl rfl rfl (c0b _ _)))) ?_
 refine zW ?_
 refine zb ?_
 refine zN ?_
 refine yn 18 ?_
 refine zN ?_
 refine zw 20 ?_
 refine AO.opG rfl rfl rfl (fun hp=>ve 19 rfl (by exact hp) (ve 21 rfl (by exact hp) (O.eql rfl rfl rfl (by exact beq_iff_eq.2 (by omega))))) ?_
 refine zW ?_
 refine zc (zJ (zn (xj ?_)))
 refine vz rfl rfl nS (⟨by simp,rfl⟩)
def AllX (bs:List (List UInt8))(k:Nat):Prop:= ∀i,i<k→(bs.getD i []).length≤900
instance (bs:List (List UInt8))(k:Nat):Decidable (AllX bs k):=by unfold AllX;infer_instance
theorem AllX.succ {bs:List (List UInt8)}{k:Nat}(h:AllX bs k)(h2:(bs.getD k []).length≤900):AllX bs (k+1):=by
 intro i hi
 by_cases e:i=k
 ·subst e;exact h2
 exact h i (by omega)
def s0o (c:Cx):List AV:=cX c
theorem n0g (c:Cx):(s0o c).length=9:=rfl
def w0W (l:List Cx):List AV:=l.flatMap s0o
def x0J (l:List Cx):AV:= .ro false l.length (w0W l)
abbrev x0D (l:List Cx)(k:Nat):Cx:=l.getD k Cx.none
theorem w0P {l:List Cx}{k:Nat}(h:k<l.length){j:Nat}(hj:j=k):((w0W l).drop (j*9)).take 9=cX (x0D l k):=g0x n0g Cx.none h hj
def s0p (m:Msg):List AV:= [.val (.int .i64 m.ty),.val (.int .i64 m.code),.val (.int .i64 m.id),roB m.tok,roO m.opts,roB m.pay]
theorem n0h (m:Msg):(s0p m).length=6:=rfl
def ms6 (ms:List Msg):List AV:=ms.flatMap s0p
def x0K (ms:List Msg):AV:= .ro false ms.length (ms6 ms)
abbrev t0K (ms:List Msg)(k:Nat):Msg:=ms.getD k Msg.none
theorem w0R {ms:List Msg}{k:Nat}(h:k<ms.length){j:Nat}(hj:j=k):((ms6 ms).drop (j*6)).take 6= [.val (.int .i64 (t0K ms k).ty),.val (.int .i64 (t0K ms k).code),.val (.int .i64 (t0K ms k).id),roB (t0K ms k).tok,roO (t0K ms k).opts,roB (t0K ms k).pay]:=g0x n0h Msg.none h hj
end Go.Proofs.YtojomcdjcpmnkaaGreat.By
namespace Go.Proofs.YtojomcdjcpmnkaaGreat.By
open Go.RowKit L A
attribute [local irreducible] AW AQ AO
def i0a (os:List Opt)(n:Int):Nat→Nat
 |0=>0
 |i+1=>if n<(oat os i).num then i0a os n i else i+1
theorem o0C (os:List Opt)(n:Int): ∀i,i0a os n i≤i
 |0=>Nat.le_refl _
 |i+1=>by
  rw[i0a]
  split
  ·have:=o0C os n i;omega
  exact Nat.le_refl _
def d0k (os:List Opt)(o:Opt):List Opt:=os.take (i0a os o.num os.length)++([o]++os.drop (i0a os o.num os.length))
theorem b0g (os:List Opt)(o:Opt):(d0k os o).length=os.length+1:=by
 have:=o0C os o.num os.length
 simp only[d0k,cH,List.length_take,List.length_drop,cL,cE];omega
def b0W (l:List Opt):List Opt:=l.foldl d0k []
theorem g0s (l:List Opt)(o:Opt):b0W (l++[o])=d0k (b0W l) o:=by unfold b0W;rw[List.foldl_append];rfl
theorem f0a (l:List Opt):(b0W l).length=l.length:=by
 have: ∀(l:List Opt) (a:List Opt),(l.foldl d0k a).length=a.length+l.length:=by
  intro l
  induction l with
  |nil=>intro a;simp
  |cons o l ih=>intro a;rw[List.foldl_cons,ih,b0g,cL];omega
 have:=this l []
 rw[b0W,this];simp
def jo (o:Opt):Bool:=decide (cls o.num=2)&&decide (o.num≠9)
def g0T (os:List Opt):List Opt:=os.filter jo
theorem j0g (os:List Opt)(o:Opt):g0T (os++[o])=if cls o.num=2∧o.num≠9 then g0T os++[o]else g0T os:=by
 unfold g0T
 rw[List.filter_append]
 by_cases h:cls o.num=2∧o.num≠9
 ·rw[if_pos h];simp[jo,h.1,h.2]
 rw[if_neg h,List.filter_cons_of_neg (by unfold jo;simpa using h)];simp
theorem i0d (os:List Opt):(g0T os).length≤os.length:=List.length_filter_le _ _
def r0B (os:List Opt):Bool:=os.any fun o=>decide (cls o.num=2)
def c0C (outer inner:Msg):Msg×Int:=
 if rq inner.code=true∨rs inner.code=true then
  (if rq inner.code=rq outer.code∧rs inner.code=rs outer.code then
   (if r0B inner.opts=true then(Msg.none,4)else(⟨outer.ty,inner.code,outer.id,outer.tok,b0W (inner.opts++g0T outer.opts),inner.pay⟩,0))
  else(Msg.none,18))
 else(Msg.none,1)
abbrev w0A (r:Msg×Int):AV:= .tup [b0c r.1,.val (.int .i64 r.2)]
theorem i0R {r:Msg×Int}{a:Msg}{e:Int}(h:r=(a,e)):Is (w0A r) (.tup [b0c a,.val (.int .i64 e)]) []:=by rw[h];exact⟨rfl,rfl⟩
def n0r (m:Msg):Prop:=m.tok.length≤140737488355328∧m.pay.length≤140737488355328∧m.opts.length≤100000∧ ∀k,k<m.opts.length→(oat m.opts k).val.length≤140737488355328
theorem m0H (os:List Opt)(n:Nat):(a0z os).take (n*2)=a0z (os.take n):=j0t c0d os n
theorem m0I (os:List Opt)(n:Nat):(a0z os).drop (n*2)=a0z (os.drop n):=g0w c0d os n
theorem c0Z {xs:List AV}(h:xs.all AV.one=true)(a b:Nat):((xs.drop a).take b).all AV.one=true:=by
 rw[List.all_eq_true]at h⊢
 exact fun x hx=>h x (List.mem_of_mem_drop (List.mem_of_mem_take hx))
theorem CoeL.of_eq {xs ys:List AV}(h:xs=ys):CoeL xs ys:=h▸CoeL.refl
theorem d0t {os:List Opt}{o:Opt}{p a b c:Nat}(hp:p=i0a os o.num os.length)(ha:a=p*2)(hb:b=(os.length-p)*2)(hc:c=p*2):
  (a0z os).take a++(.val (.int .i64 o.num)::roB o.val::((a0z os).drop c).take b)=a0z (d0k os o):=by
 subst ha
 subst hb
 subst hc
 rw[d0k,←hp,g0l,g0l,←m0H,←m0I,List.take_of_length_le (l:=(a0z os).drop (p*2)) (by rw[List.length_drop,o0M];omega)]
 rfl
theorem h0v {os:List Opt}{o:Opt}{p a:Nat}(hp:p=i0a os o.num os.length)(ha:a=p*2)(hb:p=os.length):
  (a0z os).take a++[.val (.int .i64 o.num),roB o.val]=a0z (d0k os o):=by
 have:=d0t (b:=0) (c:=p*2) hp ha (by omega) rfl
 simpa using this
set_option maxHeartbeats 8000000 in
theorem t0T (outer inner:Msg)(ho:n0r outer)(hi:n0r inner):Sp Tryz.prog 141 [b0c outer,b0c inner] [] (Is (w0A (c0C outer inner))):=by
 obtain⟨a1,a2,a3,a4⟩:=ho
 obtain⟨b1,b2,b3,b4⟩:=hi
 refine yX Tryz.func141 _ Tryz.ntmps141 (fun w0 R0=> ?_)
 refine zD (zr ?_)
 refine yo ?_
 intro B1
 refine yo ?_
 intro B2
 refine yh ?_
 intro B3
 refine zc (zJ (zn (zD (zD (zr ?_)))))
 refine zq ?_
 refine zp ?_
 refine vO (xM rfl Tryz.func152 rfl rfl rfl (d0n inner.code)) ?_
 refine xu ?_
 refine zb ?_
 refine zN ?_
 refine yn 20 ?_
 refine AO.opG rfl rfl rfl (fun hp=>ve 21 rfl (by exact hp) (xM rfl Tryz.func153 rfl rfl rfl (c0R inner.code))) ?_
 refine xc 22 ?_
 refine zW (zJ (zn ?_))
 refine yt (fun h=> ?_) (fun h=> ?_)<;>(try simp only[vT]at h)
 ·have e:c0C outer inner=(Msg.none,1):=if_neg (by rw[h.1,h.2];simp)
  refine zD (zr ?_)
  refine zP ?_
  refine zo 0 ?_
  refine zc (zJ (zn (xj (xx ?_))))
  refine wa (AQ.retCT rfl rfl rfl (by repeat(exact List.Mem.head _)) (by(dsimp only[List.set,List.append,cA,cN,a0w,a0v,a0y,a0e,a0A,AV.cells,List.map,List.map_cons,List.map_nil,List.take,List.drop,Nat.zero_add,Nat.add_zero,Nat.reduceAdd,Nat.reduceMul,Nat.zero_mul,Value.cells,List.toList_toArray,a0x,List.replicate,List.flatten,cP];done)) (by rfl) nS ⟨rfl,rfl⟩) zl (i0R e)
 have hc:rq inner.code=true∨rs inner.code=true:=by cases hq:rq inner.code<;>simp_all
 refine y6 (zn (zD (zD ?_)))
 refine yA 16 ?_
 simp only[cT,cZ,cD,cO]
 refine yw ?_
 refine zM ?_
 refine vP (xM rfl Tryz.func152 rfl rfl rfl (d0n inner.code)) ?_
 refine yw ?_
 refine zM ?_
 refine vP (xM rfl Tryz.func152 rfl rfl rfl (d0n outer.code)) ?_
 refine vP (O.neqB rfl rfl rfl (by rfl)) ?_
 refine zH ?_
 refine wy ?_
 refine FA.opG rfl rfl rfl rfl (fun hp=>xI 34 rfl (by exact hp)) ?_
 refine FA.opG rfl rfl rfl rfl (fun hp=>ve 35 rfl (by exact hp) (xM rfl Tryz.func153 rfl rfl rfl (c0R inner.code))) ?_
 refine wy ?_
 refine FA.opG rfl rfl rfl rfl (fun hp=>xI 37 rfl (by exact hp)) ?_
 refine FA.opG rfl rfl rfl rfl (fun hp=>ve 38 rfl (by exact hp) (xM rfl Tryz.func153 rfl rfl rfl (c0R outer.code))) ?_
 refine FA.opG rfl rfl rfl rfl (fun hp=>ve 36 rfl (by exact hp) (ve 39 rfl (by exact hp) (O.neqB rfl rfl rfl (by rfl)))) ?_
 refine vP zO ?_
 refine vb ?_
 simp only[a0h,cN,cA,cP]
 refine zJ (zn ?_)
 refine yt (fun hm=> ?_) (fun hm=> ?_)<;>(try simp only[vT]at hm)
 ·have e:c0C outer inner=(Msg.none,18):=by
   rw[c0C,if_pos hc,if_neg]
   rintro⟨k1,k2⟩
   rw[k1,k2]at hm
   simp at hm
  refine zD (zr ?_)
  refine zP ?_
  refine zo 0 ?_
  refine zc (zJ (zn (xj (xx ?_))))
  refine wa (AQ.retCT rfl rfl rfl (by repeat(exact List.Mem.head _)) (by(dsimp only[List.set,List.append,cA,cN,a0w,a0v,a0y,a0e,a0A,AV.cells,List.map,List.map_cons,List.map_nil,List.take,List.drop,Nat.zero_add,Nat.add_zero,Nat.reduceAdd,Nat.reduceMul,Nat.zero_mul,Value.cells,List.toList_toArray,a0x,List.replicate,List.flatten,cP];done)) (by rfl) nS ⟨rfl,rfl⟩) zl (i0R e)
 have hm2:rq inner.code=rq outer.code∧rs inner.code=rs outer.code:=by simpa using hm
 refine y6 (zn (zD ?_))
 refine yA 14 ?_
 simp only[cT,cZ,cD,cO]
 refine yw ?_
 refine zM ?_
 refine yw ?_
 refine zM ?_
 refine yw ?_
 refine zM ?_
 refine x9 ?_
 refine yw ?_
 refine zM ?_
 refine yw ?_
 refine zM ?_
 refine x9 ?_
 refine x0 ?_
 refine FA.opN z9 rfl rfl rfl rfl ?_
 refine vb ?_
 simp only[a0h,cN,cA,cP]
 rintro _ _ ⟨B4,rfl,rfl⟩
 simp only[cA,cN]
 refine zo 0 (zJ (zn (zD (zr ?_))))
 refine zc (zJ (zn (zD (zD (zr ?_)))))
 refine zq ?_
 refine zp ?_
 refine zX ?_
 refine zb (zJ (zn (xo ?_)))
 refine AW.g ?_
 refine G.nilRow 96 2 ?_
 refine AW.u ?_
 refine xQ [(2,_),(4,_),(6,_),(57,_),(58,_)] (fun nn E H=> ∃(k:Nat) (V:Value),(k≤inner.opts.length)∧(V.oneCell'=true)∧(r0B (inner.opts.take k)=false)∧nn=inner.opts.length-k∧E= [(7,.val V),(59,.val (.int .i64 (k:Int)))]∧H= [.row V 96 2 (inner.opts.take k).length (a0z (inner.opts.take k)),.blk B4 29 6 [.val (.int .i64 outer.ty),.val (.int .i64 inner.code),.val (.int .i64 outer.id),roB outer.tok,.val (.slice none 0 0),roB inner.pay],.blk B3 29 6 [.val (.int .i64 0),.val (.int .i64 0),.val (.int .i64 0),.val (.slice none 0 0),.val (.slice none 0 0),.val (.slice none 0 0)],.blk B1 29 6 [.val (.int .i64 outer.ty),.val (.int .i64 outer.code),.val (.int .i64 outer.id),roB outer.tok,roO outer.opts,roB outer.pay]]) _ (⟨0,_,by omega,rfl,rfl,rfl,rfl,rfl⟩) ?_
 rintro nn E H ⟨k,V,hk,hV,hb,rfl,rfl,rfl⟩
 dsimp only[cA,cN]
 have hlk:(inner.opts.take k).length=k:=by rw[List.length_take];omega
 refine zD (zr ?_)
 refine zT (zJ (zn (zD ?_)))
 refine yt (fun h2=> ?_) (fun h2=> ?_)<;>(try simp only[vT]at h2)
 ·have hkk:k<inner.opts.length:=by omega
  have hv4:=b4 k hkk
  have hts:inner.opts.take (k+1)=inner.opts.take k++[oat inner.opts k]:=a0i Opt.none hkk
  refine y6 (zn (zD (xo (zD (zr ?_)))))
  refine ye ?_
  refine y3 ?_
  refine yh ?_
  intro B5
  refine zo 0 (zJ (zn (zD (zD (zr ?_)))))
  refine zq ?_
  refine zv ?_
  refine vO (xM rfl Tryz.func154 rfl rfl rfl (i0v _)) ?_
  refine z8 (zJ (zn ?_))
  refine yt (fun h3=> ?_) (fun h3=> ?_)<;>(try simp only[vT]at h3)
  ·have e:c0C outer inner=(Msg.none,4):=by
    rw[c0C,if_pos hc,if_pos hm2,if_pos]
    exact List.any_eq_true.2 ⟨oat inner.opts k,b0m _ hkk,by simpa using h3⟩
   refine zD (zr ?_)
   refine zP ?_
   refine zo 3 ?_
   refine zc (zJ (zn (xj (xx ?_))))
   refine ww (xx ?_)
   refine AQ.loopR ?_
   refine ww (xx ?_)
   refine wa vN zl (i0R e)
  have hb':r0B (inner.opts.take (k+1))=false:=by
   rw[hts];unfold r0B at hb⊢;rw[List.any_append,hb];simp only[List.any_cons,List.any_nil,Bool.false_or,Bool.or_false];exact decide_eq_false h3
  refine y6 (zn (zr ?_))
  refine zb ?_
  refine y8 ?_
  refine vO (xM rfl Tryz.func155 rfl rfl rfl (e0B (oat inner.opts k) hv4)) ?_
  refine zR ?_
  intro B6
  refine AO.g ?_
  refine yi 0 71 ?_
  refine wm 71 ?_
  refine AO.u ?_
  dsimp only[List.eraseIdx]
  refine y7 1 ?_
  intro V7 hV7
  refine zc (zJ (xE (zn (zr ?_))))
  refine zB ?_
  refine zb (zJ ?_)
  refine zL _ _ _ (by omega) (⟨k+1,_,by omega,‹_›,hb',rfl,rfl,by rw[hts,a0D,cH]⟩)
 obtain rfl:k=inner.opts.length:=by omega
 rw[List.take_length]at hb⊢
 have hnc: ¬r0B inner.opts=true:=by rw[hb];simp
 have e:c0C outer inner=(⟨outer.ty,inner.code,outer.id,outer.tok,b0W (inner.opts++g0T outer.opts),inner.pay⟩,0):=by rw[c0C,if_pos hc,if_pos hm2,if_neg hnc]
 refine wj ?_
 refine x8 ?_
 refine wd ?_
 refine xD (zn (zD (zD (zr ?_))))
 refine zq ?_
 refine zp ?_
 refine zX ?_
 refine zb (zJ (zn (xo ?_)))
 refine zi [(4,_),(6,_),(75,_),(76,_)] (fun nn E H=> ∃(k:Nat) (V:Value),(k≤outer.opts.length)∧(V.oneCell'=true)∧nn=outer.opts.length-k∧E= [(7,.val V),(77,.val (.int .i64 (k:Int)))]∧H= [.row V 96 2 (inner.opts++g0T (outer.opts.take k)).length (a0z (inner.opts++g0T (outer.opts.take k))),.blk B4 29 6 [.val (.int .i64 outer.ty),.val (.int .i64 inner.code),.val (.int .i64 outer.id),roB outer.tok,.val (.slice none 0 0),roB inner.pay],.blk B3 29 6 [.val (.int .i64 0),.val (.int .i64 0),.val (.int .i64 0),.val (.slice none 0 0),.val (.slice none 0 0),.val (.slice none 0 0)]]) _ (⟨0,V,by omega,hV,rfl,rfl,by rw[show inner.opts++g0T (outer.opts.take 0)=inner.opts by simp[g0T]]⟩) ?_
 rintro nn E H ⟨k,V,hk,hV,rfl,rfl,rfl⟩
 dsimp only[cA,cN]
 have hl2:=i0d (outer.opts.take k)
 rw[List.length_take]at hl2
 have hl3:(inner.opts++g0T (outer.opts.take k)).length=inner.opts.length+(g0T (outer.opts.take k)).length:=List.length_append
 refine zD (zr ?_)
 refine zT (zJ (zn (zD ?_)))
 refine yt (fun h4=> ?_) (fun h4=> ?_)<;>(try simp only[vT]at h4)
 ·have hkk:k<outer.opts.length:=by omega
  have hv4:=a4 k hkk
  have hsc:=j0g (outer.opts.take k) (oat outer.opts k)
  rw[←a0i Opt.none hkk]at hsc
  refine y6 (zn (zD (xo (zD (zr ?_)))))
  refine ye ?_
  refine y3 ?_
  refine yh ?_
  intro B8
  refine zo 0 (zJ (zn (zD (zr ?_))))
  refine zq ?_
  refine zv ?_
  refine vO (xM rfl Tryz.func154 rfl rfl rfl (i0v _)) ?_
  refine z8 ?_
  refine zb ?_
  refine zN ?_
  refine zw 86 ?_
  refine xW 87 ?_
  refine zW (zJ (zn ?_))
  refine yt (fun h5=> ?_) (fun h5=> ?_)<;>(try simp only[vT]at h5)
  ·rw[if_pos h5,]at hsc
   refine zr ?_
   refine zb ?_
   refine y8 ?_
   refine vO (xM rfl Tryz.func155 rfl rfl rfl (e0B (oat outer.opts k) hv4)) ?_
   refine zR ?_
   intro B9
   refine AO.g ?_
   refine yi 0 93 ?_
   refine wm 93 ?_
   refine AO.u ?_
   dsimp only[List.eraseIdx]
   refine y7 1 ?_
   intro V10 hV10
   refine zc (zJ (xE (zn (zr ?_))))
   refine zB ?_
   refine zb (zJ ?_)
   refine zL _ _ _ (by omega) (⟨k+1,_,by omega,‹_›,rfl,rfl,by rw[hsc,←List.append_assoc,a0D,List.length_append (bs:= [_])]⟩)
  rw[if_neg (fun hh=>hh.2 (h5 hh.1))]at hsc
  refine y6 (xE (zn (zr ?_)))
  refine zB ?_
  refine zb (zJ ?_)
  refine zL _ _ _ (by omega) (⟨k+1,V,by omega,hV,rfl,rfl,by rw[hsc]⟩)
 obtain rfl:k=outer.opts.length:=by omega
 rw[List.take_length]at hl2 hl3⊢
 refine AW.g ?_
 refine yf 0 [7] ?_
 refine AW.u ?_
 try dsimp only[List.map,List.eraseIdx,cA,cN]
 refine wj ?_
 refine x8 ?_
 refine wd ?_
 refine xD (zn (zD (zD (zr ?_))))
 refine zb ?_
 refine zX ?_
 refine zb (zJ (zn (xo ?_)))
 obtain⟨L,hL⟩: ∃L,L=inner.opts++g0T outer.opts:=⟨_,rfl⟩
 rw[←hL]at hl3 e⊢
 refine AW.g ?_
 refine G.nilRow 96 2 ?_
 refine AW.u ?_
 refine zi [(4,_),(6,_),(96,_),(97,_)] (fun nn E H=> ∃(k:Nat) (os:List Opt) (V:Value),(k≤L.length)∧(os=b0W (L.take k))∧(V.oneCell'=true)∧(os= []→V= .slice none 0 0)∧nn=L.length-k∧E= [(98,.val (.int .i64 (k:Int)))]∧H= [.row V 96 2 (os).length (a0z (os)),.blk B4 29 6 [.val (.int .i64 outer.ty),.val (.int .i64 inner.code),.val (.int .i64 outer.id),roB outer.tok,.val V,roB inner.pay],.blk B3 29 6 [.val (.int .i64 0),.val (.int .i64 0),.val (.int .i64 0),.val (.slice none 0 0),.val (.slice none 0 0),.val (.slice none 0 0)]]) _ (⟨0,[],_,by omega,rfl,rfl,fun _=>rfl,rfl,rfl,rfl⟩) ?_
 rintro nn E H ⟨k,os,V,hk,hos,hV,h0,rfl,rfl,rfl⟩
 dsimp only[cA,cN]
 have hosl:os.length=k:=by rw[hos,f0a,List.length_take];omega
 refine zD (zr ?_)
 refine zT (zJ (zn (zD ?_)))
 refine yt (fun h6=> ?_) (fun h6=> ?_)<;>(try simp only[vT]at h6)
 ·have hkk:k<L.length:=by omega
  have hsc:b0W (L.take (k+1))=d0k os (oat L k):=by rw[a0i Opt.none hkk,g0s,hos]
  rcases Nat.eq_zero_or_pos os.length with hz|hz
  ·obtain rfl:os= []:=List.eq_nil_of_length_eq_zero hz
   obtain rfl:=h0 rfl
   refine y6 (zn (zD (xo (zD (zr ?_)))))
   refine ye ?_
   refine y3 ?_
   refine yh ?_
   intro B11
   refine zo 0 (zJ (zn (zD (zr ?_))))
   refine zq ?_
   refine zp ?_
   refine vO (O.lenV rfl rfl) ?_
   refine zc (zJ (zn (zD (xo ?_))))
   refine zi [(4,_),(6,_),(13,_),(96,_),(97,_),(98,_)] (fun nn E H=> ∃(i:Nat),(i=0)∧i=nn∧E= [(14,.val (.int .i64 (i:Int)))]∧H= [.blk B11 96 2 [.val (.int .i64 (oat L k).num),roB (oat L k).val],.row (.slice none 0 0) 96 2 0 [],.blk B4 29 6 [.val (.int .i64 outer.ty),.val (.int .i64 inner.code),.val (.int .i64 outer.id),roB outer.tok,.val (.slice none 0 0),roB inner.pay],.blk B3 29 6 [.val (.int .i64 0),.val (.int .i64 0),.val (.int .i64 0),.val (.slice none 0 0),.val (.slice none 0 0),.val (.slice none 0 0)]]) _ (⟨0,rfl,rfl,rfl,rfl⟩) ?_
   rintro nn E H ⟨i,hi,rfl,rfl,rfl⟩
   dsimp only[cA,cN]
   subst hi
   refine zD (zD ?_)
   refine yA 14 ?_
   simp only[cT,cZ,cD,cO]
   refine zH ?_
   refine vP (O.gtr rfl rfl rfl (by exact e0G (by omega))) ?_
   refine zH ?_
   refine wy ?_
   refine FA.opG rfl rfl rfl rfl (fun hp=>xI 108 rfl (by exact hp)) ?_
   refine FA.opG rfl rfl rfl rfl (fun hp=>zg) ?_
   refine FA.opG rfl rfl rfl rfl (fun hp=>vH 110 rfl (by exact hp)) ?_
   refine FA.no rfl rfl rfl rfl ?_
   refine FA.no rfl rfl rfl rfl ?_
   refine FA.no rfl rfl rfl rfl ?_
   refine wy ?_
   refine FA.opG rfl rfl rfl rfl (fun hp=>ve 115 rfl (by exact hp) zh) ?_
   refine FA.no rfl rfl rfl rfl ?_
   refine vP (O.pickF rfl rfl rfl) ?_
   refine vb ?_
   simp only[a0h,cN,cA,cP]
   refine zJ (zn ?_)
   refine yt (fun hq=> ?_) (fun hq=> ?_)
   ·simp at hq
   refine wj ?_
   refine x8 ?_
   refine wd ?_
   refine xD (zn ?_)
   refine vo [[(0,false),(1,false),(2,false),(3,false),(4,false),(6,false),(7,false),(8,false),(9,false),(5,true),(10,true)],[(11,true)],[(12,false)],[(13,true)]] ?_
   refine AMS.go (by exact(a0s 1 rfl a0g)) ?_
   try dsimp only[List.eraseIdx]
   refine y1 ?_
   refine yu ?_
   refine yW ?_
   refine vQ rfl (O.sliceN rfl rfl rfl rfl ⟨by omega,by omega,by omega⟩) ?_
   refine xH ?_
   refine y1 ?_
   refine yu ?_
   refine yW ?_
   refine vQ rfl (O.sliceN rfl rfl rfl rfl ⟨by omega,by omega,by omega⟩) ?_
   refine xN _ (fun w0 R0=> ?_)
   refine zR ?_
   intro B12
   refine AO.g ?_
   refine xT B12 1 1 0 rfl rfl rfl (Nat.le_refl _) ?_
   refine AO.u ?_
   dsimp only[List.set]
   refine AM.ok ?_
   dsimp only[a0q]
   refine xN _ (fun w0 R0=> ?_)
   refine AO.append' (i:=0) rfl rfl rfl rfl (by rfl) (by rfl) rfl rfl rfl (by exact SrcA.nil TyD.ax) (by rfl) (by(unfold maxLen;omega)) (by omega) (by(dsimp only[List.set,List.append,cA,cN,a0w,a0v,a0y,a0e,a0A,AV.cells,List.map,List.map_cons,List.map_nil,List.take,List.drop,Nat.zero_add,Nat.add_zero,Nat.reduceAdd,Nat.reduceMul,Nat.zero_mul,Value.cells,List.toList_toArray,a0x,List.replicate,List.flatten,cP];done)) (fun _=>by(dsimp only[List.set];done)) ?_
   intro V13 hV13
   refine AM.ok ?_
   dsimp only[a0q]
   refine vd ?_
   try dsimp only[cA,cN]
   refine vf ?_
   try dsimp only[List.eraseIdx]
   refine xN _ (fun w0 R0=> ?_)
   refine AO.append' (i:=1) rfl rfl rfl rfl (by rfl) (by rfl) rfl rfl rfl (by exact SrcA.row TyD.ax (by repeat(exact List.Mem.head _)) (by rfl)) (by rfl) (by(unfold maxLen;omega)) (by omega) (by(dsimp only[List.set,List.append,cA,cN,a0w,a0v,a0y,a0e,a0A,AV.cells,List.map,List.map_cons,List.map_nil,List.take,List.drop,Nat.zero_add,Nat.add_zero,Nat.reduceAdd,Nat.reduceMul,Nat.zero_mul,Value.cells,List.toList_toArray,a0x,List.replicate,List.flatten,cP];done)) (fun _=>by(dsimp only[List.set];done)) ?_
   intro V14 hV14
   refine AM.ok ?_
   dsimp only[a0q]
   refine vd ?_
   try dsimp only[cA,cN]
   refine vL ?_
   try dsimp only[List.eraseIdx]
   refine y1 ?_
   refine vd ?_
   try dsimp only[cA,cN]
   refine AMS.go (by exact(by exact a0K 133 3 rfl rfl a0g)) ?_
   try dsimp only[List.eraseIdx]
   refine xN _ (fun w0 R0=> ?_)
   refine yx 0 (vI ?_)
   dsimp only[a0q]
   refine vd ?_
   try dsimp only[cA,cN]
   refine AMS.nil (xE (zn (zr ?_)))
   refine zB ?_
   refine zb (zJ ?_)
   refine AQ.g ?_
   refine G.coeRow 2 (d0k [] (oat L k)).length (a0z (d0k [] (oat L k))) rfl rfl (CoeL.of_eq rfl) ?_
   refine AQ.u ?_
   refine wD _ _ _ (by omega) (⟨k+1,d0k [] (oat L k),_,by omega,hsc.symm,‹_›,fun hh=>absurd (congrArg List.length hh) (by rw[b0g];simp),rfl,rfl,rfl⟩)
  refine AW.g ?_
  refine G.openRow 0 rfl hz (fun b' cap hc1 hc2 hxs hVe=> ?_)
  refine AW.u ?_
  subst hVe
  have hc3:=hc2
  unfold maxLen at hc3
  refine y6 (zn (zD (xo (zD (zr ?_)))))
  refine ye ?_
  refine y3 ?_
  refine yh ?_
  intro B11
  refine zo 0 (zJ (zn (zD (zr ?_))))
  refine zq ?_
  refine zp ?_
  refine vO (O.lenV rfl rfl) ?_
  refine zc (zJ (zn (zD (xo ?_))))
  refine zi [(4,_),(6,_),(13,_),(96,_),(97,_),(98,_)] (fun nn E H=> ∃(i:Nat),(i≤os.length)∧(i0a os (oat L k).num i=i0a os (oat L k).num os.length)∧i=nn∧E= [(14,.val (.int .i64 (i:Int)))]∧H= [.blk B11 96 2 [.val (.int .i64 (oat L k).num),roB (oat L k).val],.blk b' 96 (cap*2) (a0z os),.blk B4 29 6 [.val (.int .i64 outer.ty),.val (.int .i64 inner.code),.val (.int .i64 outer.id),roB outer.tok,.val (.slice (some ⟨b',0,none⟩) os.length cap),roB inner.pay],.blk B3 29 6 [.val (.int .i64 0),.val (.int .i64 0),.val (.int .i64 0),.val (.slice none 0 0),.val (.slice none 0 0),.val (.slice none 0 0)]]) _ (⟨os.length,Nat.le_refl _,rfl,rfl,rfl,rfl⟩) ?_
  rintro nn E H ⟨i,hi,hp,rfl,rfl,rfl⟩
  dsimp only[cA,cN]
  rcases i with _|i
  ·refine zD (zD ?_)
   refine yA 14 ?_
   simp only[cT,cZ,cD,cO]
   refine zH ?_
   refine vP (O.gtr rfl rfl rfl (by exact e0G (by omega))) ?_
   refine zH ?_
   refine wy ?_
   refine FA.opG rfl rfl rfl rfl (fun hp=>xI 108 rfl (by exact hp)) ?_
   refine FA.opG rfl rfl rfl rfl (fun hp=>zg) ?_
   refine FA.opG rfl rfl rfl rfl (fun hp=>vH 110 rfl (by exact hp)) ?_
   refine FA.no rfl rfl rfl rfl ?_
   refine FA.no rfl rfl rfl rfl ?_
   refine FA.no rfl rfl rfl rfl ?_
   refine wy ?_
   refine FA.opG rfl rfl rfl rfl (fun hp=>ve 115 rfl (by exact hp) zh) ?_
   refine FA.no rfl rfl rfl rfl ?_
   refine vP (O.pickF rfl rfl rfl) ?_
   refine vb ?_
   simp only[a0h,cN,cA,cP]
   refine zJ (zn ?_)
   refine yt (fun hq=> ?_) (fun hq=> ?_)
   ·simp at hq
   obtain⟨p,hp0⟩: ∃p:Nat,p=0:=⟨_,rfl⟩
   refine AW.g ?_
   refine G.re 14 (.val (.int .i64 (p:Int))) (by rw[hp0];rfl) ?_
   refine AW.u ?_
   have hpp:p=i0a os (oat L k).num os.length:=by rw[hp0,←hp];rfl
   have hpl:p<os.length:=by omega
   clear hp0 hp
   refine wj ?_
   refine x8 ?_
   refine wd ?_
   refine xD (zn ?_)
   refine vo [[(0,false),(1,false),(2,false),(3,false),(4,false),(6,false),(7,false),(8,false),(9,false),(5,true),(10,true)],[(11,true)],[(12,false)],[(13,true)]] ?_
   refine AMS.go (by exact(a0s 1 rfl a0g)) ?_
   try dsimp only[List.eraseIdx]
   refine y1 ?_
   refine yu ?_
   refine yW ?_
   refine wP ?_
   refine xH ?_
   refine y1 ?_
   refine yu ?_
   refine yW ?_
   refine wP ?_
   refine xN _ (fun w0 R0=> ?_)
   refine zR ?_
   intro B12
   refine AO.g ?_
   refine xT B12 1 1 0 rfl rfl rfl (Nat.le_refl _) ?_
   refine AO.u ?_
   dsimp only[List.set]
   refine AM.ok ?_
   dsimp only[a0q]
   refine xN _ (fun w0 R0=> ?_)
   refine wV 0 ?_
   intro V13 hV13
   refine AM.ok ?_
   dsimp only[a0q]
   refine vd ?_
   try dsimp only[cA,cN]
   refine vf ?_
   try dsimp only[List.eraseIdx]
   refine xN _ (fun w0 R0=> ?_)
   refine AO.appendCut (i:=1) rfl rfl rfl rfl (by rfl) (by rfl) rfl rfl rfl (by omega) (by exact SrcA.row TyD.ax (by repeat(exact List.Mem.head _)) (by(simp;omega))) (by exact c0Z (b0R _) _ _) (by(unfold maxLen;omega)) (by omega) ⟨by omega,by assumption⟩ (by(dsimp only[List.set,List.append,cA,cN,a0w,a0v,a0y,a0e,a0A,AV.cells,List.map,List.map_cons,List.map_nil,List.take,List.drop,Nat.zero_add,Nat.add_zero,Nat.reduceAdd,Nat.reduceMul,Nat.zero_mul,Value.cells,List.toList_toArray,a0x,List.replicate,List.flatten,cP];done)) (fun _=>by(dsimp only[List.set];done)) ?_
   intro V14 hV14
   refine AM.ok ?_
   dsimp only[a0q]
   refine vd ?_
   try dsimp only[cA,cN]
   refine vL ?_
   try dsimp only[List.eraseIdx]
   refine y1 ?_
   refine vd ?_
   try dsimp only[cA,cN]
   refine AMS.go (by exact(by exact a0K 133 3 rfl rfl a0g)) ?_
   try dsimp only[List.eraseIdx]
   refine xN _ (fun w0 R0=> ?_)
   refine yx 0 (vI ?_)
   dsimp only[a0q]
   refine vd ?_
   try dsimp only[cA,cN]
   refine AMS.nil (xE (zn (zr ?_)))
   refine zB ?_
   refine zb (zJ ?_)
   refine AQ.g ?_
   refine G.coeRow 2 (d0k os (oat L k)).length (a0z (d0k os (oat L k))) rfl (by rw[b0g];omega) (CoeL.of_eq (d0t hpp (by omega) (by omega) (by omega))) ?_
   refine AQ.u ?_
   refine wD _ _ _ (by omega) (⟨k+1,d0k os (oat L k),_,by omega,hsc.symm,‹_›,fun hh=>absurd (congrArg List.length hh) (by rw[b0g];simp),rfl,rfl,rfl⟩)
  refine zD (zD ?_)
  refine yA 14 ?_
  simp only[cT,cZ,cD,cO]
  refine zH ?_
  refine vP (O.gtr rfl rfl rfl (by exact p0J (by omega))) ?_
  refine zH ?_
  refine wy ?_
  refine FA.opG rfl rfl rfl rfl (fun hp=>xI 108 rfl (by exact hp)) ?_
  refine FA.opG rfl rfl rfl rfl (fun hp=>zg) ?_
  refine FA.opG rfl rfl rfl rfl (fun hp=>vH 110 rfl (by exact hp)) ?_
  refine FA.opG rfl rfl rfl rfl (fun hp=>ve 109 rfl (by exact hp) (ve 111 rfl (by exact hp) wk)) ?_
  refine FA.opG rfl rfl rfl rfl (fun hp=>ve 112 rfl (by exact hp) zx) ?_
  refine FA.opG rfl rfl rfl rfl (fun hp=>ve 113 rfl (by exact hp) (O.load rfl rfl mM (by exact t0W (k:=i) (by omega) (by omega)))) ?_
  refine wy ?_
  refine FA.opG rfl rfl rfl rfl (fun hp=>ve 115 rfl (by exact hp) zh) ?_
  refine FA.opG rfl rfl rfl rfl (fun hp=>ve 114 rfl (by exact hp) (ve 116 rfl (by exact hp) yT)) ?_
  refine vP ym ?_
  refine vb ?_
  simp only[a0h,cN,cA,cP]
  refine zJ (zn ?_)
  refine yt (fun hq=> ?_) (fun hq=> ?_)<;>(try simp only[vT]at hq)
  ·refine y6 (zn (xo (zr ?_)))
   refine zb ?_
   refine yN ?_
   refine zc (zJ (xE ?_))
   rw[show((i+1:Nat):Int)-1=(i:Int) by omega]
   refine zu _ _ _ (by omega) (⟨i,by omega,by rw[←hp,i0a,if_pos hq.2],rfl,rfl,rfl⟩)
  have hpp:i+1=i0a os (oat L k).num os.length:=by rw[←hp,i0a,if_neg (by have:=hq trivial;omega)]
  clear hp
  rcases Nat.lt_or_ge (i+1) os.length with hlt|hge
  ·refine wj ?_
   refine x8 ?_
   refine wd ?_
   refine xD (zn ?_)
   refine vo [[(0,false),(1,false),(2,false),(3,false),(4,false),(6,false),(7,false),(8,false),(9,false),(5,true),(10,true)],[(11,true)],[(12,false)],[(13,true)]] ?_
   refine AMS.go (by exact(a0s 1 rfl a0g)) ?_
   try dsimp only[List.eraseIdx]
   refine y1 ?_
   refine yu ?_
   refine yW ?_
   refine wP ?_
   refine xH ?_
   refine y1 ?_
   refine yu ?_
   refine yW ?_
   refine wP ?_
   refine xN _ (fun w0 R0=> ?_)
   refine zR ?_
   intro B12
   refine AO.g ?_
   refine xT B12 1 1 0 rfl rfl rfl (Nat.le_refl _) ?_
   refine AO.u ?_
   dsimp only[List.set]
   refine AM.ok ?_
   dsimp only[a0q]
   refine xN _ (fun w0 R0=> ?_)
   refine wV 0 ?_
   intro V13 hV13
   refine AM.ok ?_
   dsimp only[a0q]
   refine vd ?_
   try dsimp only[cA,cN]
   refine vf ?_
   try dsimp only[List.eraseIdx]
   refine xN _ (fun w0 R0=> ?_)
   refine AO.appendCut (i:=1) rfl rfl rfl rfl (by rfl) (by rfl) rfl rfl rfl (by omega) (by exact SrcA.row TyD.ax (by repeat(exact List.Mem.head _)) (by(simp;omega))) (by exact c0Z (b0R _) _ _) (by(unfold maxLen;omega)) (by omega) ⟨by omega,by assumption⟩ (by(dsimp only[List.set,List.append,cA,cN,a0w,a0v,a0y,a0e,a0A,AV.cells,List.map,List.map_cons,List.map_nil,List.take,List.drop,Nat.zero_add,Nat.add_zero,Nat.reduceAdd,Nat.reduceMul,Nat.zero_mul,Value.cells,List.toList_toArray,a0x,List.replicate,List.flatten,cP];done)) (fun _=>by(dsimp only[List.set];done)) ?_
   intro V14 hV14
   refine AM.ok ?_
   dsimp only[a0q]
   refine vd ?_
   try dsimp only[cA,cN]
   refine vL ?_
   try dsimp only[List.eraseIdx]
   refine y1 ?_
   refine vd ?_
   try dsimp only[cA,cN]
   refine AMS.go (by exact(by exact a0K 133 3 rfl rfl a0g)) ?_
   try dsimp only[List.eraseIdx]
   refine xN _ (fun w0 R0=> ?_)
   refine yx 0 (vI ?_)
   dsimp only[a0q]
   refine vd ?_
   try dsimp only[cA,cN]
   refine AMS.nil (xE (zn (zr ?_)))
   refine zB ?_
   refine zb (zJ ?_)
   refine AQ.g ?_
   refine G.coeRow 2 (d0k os (oat L k)).length (a0z (d0k os (oat L k))) rfl (by rw[b0g];omega) (CoeL.of_eq (d0t hpp (by omega) (by omega) (by omega))) ?_
   refine AQ.u ?_
   refine wD _ _ _ (by omega) (⟨k+1,d0k os (oat L k),_,by omega,hsc.symm,‹_›,fun hh=>absurd (congrArg List.length hh) (by rw[b0g];simp),rfl,rfl,rfl⟩)
  refine wj ?_
  refine x8 ?_
  refine wd ?_
  refine xD (zn ?_)
  refine vo [[(0,false),(1,false),(2,false),(3,false),(4,false),(6,false),(7,false),(8,false),(9,false),(5,true),(10,true)],[(11,true)],[(12,false)],[(13,true)]] ?_
  refine AMS.go (by exact(a0s 1 rfl a0g)) ?_
  try dsimp only[List.eraseIdx]
  refine y1 ?_
  refine yu ?_
  refine yW ?_
  refine wP ?_
  refine xH ?_
  refine y1 ?_
  refine yu ?_
  refine yW ?_
  refine vQ rfl (O.sliceV0 rfl rfl rfl rfl ⟨by omega,by omega,by omega⟩ (by omega) (by assumption)) ?_
  refine xN _ (fun w0 R0=> ?_)
  refine zR ?_
  intro B12
  refine AO.g ?_
  refine xT B12 1 1 0 rfl rfl rfl (Nat.le_refl _) ?_
  refine AO.u ?_
  dsimp only[List.set]
  refine AM.ok ?_
  dsimp only[a0q]
  refine xN _ (fun w0 R0=> ?_)
  refine y7 0 ?_
  intro V13 hV13
  refine AM.ok ?_
  dsimp only[a0q]
  refine vd ?_
  try dsimp only[cA,cN]
  refine vf ?_
  try dsimp only[List.eraseIdx]
  refine xN _ (fun w0 R0=> ?_)
  refine AO.appendCut (i:=1) rfl rfl rfl rfl (by rfl) (by rfl) rfl rfl rfl (by omega) (by exact SrcA.row TyD.ax (by repeat(exact List.Mem.head _)) (by rfl)) (by rfl) (by(unfold maxLen;omega)) (by omega) ⟨by omega,by assumption⟩ (by(dsimp only[List.set,List.append,cA,cN,a0w,a0v,a0y,a0e,a0A,AV.cells,List.map,List.map_cons,List.map_nil,List.take,List.drop,Nat.zero_add,Nat.add_zero,Nat.reduceAdd,Nat.reduceMul,Nat.zero_mul,Value.cells,List.toList_toArray,a0x,List.replicate,List.flatten,cP];done)) (fun _=>by(dsimp only[List.set];done)) ?_
  intro V14 hV14
  refine AM.ok ?_
  dsimp only[a0q]
  refine vd ?_
  try dsimp only[cA,cN]
  refine vL ?_
  try dsimp only[List.eraseIdx]
  refine y1 ?_
  refine vd ?_
  try dsimp only[cA,cN]
  refine AMS.go (by exact(by exact a0K 133 3 rfl rfl a0g)) ?_
  try dsimp only[List.eraseIdx]
  refine xN _ (fun w0 R0=> ?_)
  refine yx 0 (vI ?_)
  dsimp only[a0q]
  refine vd ?_
  try dsimp only[cA,cN]
  refine AMS.nil (xE (zn (zr ?_)))
  refine zB ?_
  refine zb (zJ ?_)
  refine AQ.g ?_
  refine G.coeRow 2 (d0k os (oat L k)).length (a0z (d0k os (oat L k))) rfl (by rw[b0g];omega) (CoeL.of_eq (h0v hpp (by omega) (by omega))) ?_
  refine AQ.u ?_
  refine wD _ _ _ (by omega) (⟨k+1,d0k os (oat L k),_,by omega,hsc.symm,‹_›,fun hh=>absurd (congrArg List.length hh) (by rw[b0g];simp),rfl,rfl,rfl⟩)
  skip
 have hoe:os=b0W L:=by rw[hos,List.take_of_length_le (by omega)]
 subst hoe
 refine AW.g ?_
 refine G.freezeCell 0 0 4 rfl rfl rfl ?_
 refine AW.u ?_
 refine wj ?_
 refine x8 ?_
 refine wd ?_
 refine xD (zn (zD (zr ?_)))
 refine y8 ?_
 refine zo 1 ?_
 refine zc (zJ (zn (xj ?_)))
 refine wa vN yR (i0R e)
end Go.Proofs.YtojomcdjcpmnkaaGreat.By
