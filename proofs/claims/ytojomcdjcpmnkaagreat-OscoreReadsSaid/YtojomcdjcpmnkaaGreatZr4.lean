/-
  OscoreReads, the statement: for every input the law returns true, and its arguments read as before. No condition.
-/
import Derived.Maps.AppendAt
import Derived.ChangeSame
import Derived.JoinedOf
import Derived.JoinedAt
import Derived.RowKit3
import Derived.ReadAgain
import Derived.Deep.Slices
import Derived.ChangeSlices
import Derived.Test.YtojomcdjcpmnkaaGreatZr3
set_option linter.unusedVariables false
set_option linter.unusedSimpArgs false
set_option maxRecDepth 20000
set_option maxHeartbeats 4000000
namespace Go.Proofs.YtojomcdjcpmnkaaGreat.By
open Go.RowKit L A
attribute [local irreducible] AW AQ AO
instance :TyN Tryz.prog 183 512 512 (.agg ⟨List.replicate 512 (.int .u8 0)⟩):=⟨Tryz.t183,Tryz.type183,rfl,rfl,by kernel_rfl⟩
theorem b0Q (n:Nat):List.map AV.val (List.replicate n (.int .u8 0))=arB n (fun _=>0):=by
 rw[b0Z,List.map_replicate]
 apply List.ext_getElem?
 intro q
 by_cases h:q<n<;>simp[h]
theorem d0E {q:Nat}(hq:q<256){v:UInt8}:UInt8.ofNat q=v↔q=v.toNat:=by
 constructor
 ·rintro rfl;rw[UInt8.toNat_ofNat_of_lt' (by simpa[UInt8.size]using hq)]
 rintro rfl;exact UInt8.ofNat_toNat
theorem p0X (v:UInt8):tA (lg v)=v:=by have:=(o0l v.toNat v.toNat_lt).1;rwa [UInt8.ofNat_toNat]at this
theorem o0T (v:UInt8):lg v<256:=by have:=(o0l v.toNat v.toNat_lt).2;rwa [UInt8.ofNat_toNat]at this
theorem q0b (v:UInt8):sb (iv v)=v:=by have:=(q0t v.toNat v.toNat_lt).2;rwa [UInt8.ofNat_toNat]at this
theorem m0c {i:Nat}(hi:i<256){v:UInt8}:lg v=i↔v=tA i:=by
 constructor
 ·intro h;rw[←h];exact(p0X v).symm
 rintro rfl;exact(o0m i hi).1
def tT (i q:Nat):UInt8:=if q<256 then(if lg (UInt8.ofNat q)<i then sb (UInt8.ofNat q)else 0)else(if lg (iv (UInt8.ofNat (q-256)))<i then iv (UInt8.ofNat (q-256))else 0)
def TB (q:Nat):UInt8:=if q<256 then sb (UInt8.ofNat q)else iv (UInt8.ofNat (q-256))
theorem m0A {i:Nat}(hi:i<256)(q:Nat)(hq:q<512):(if q=256+(tC i 4).toNat then tA i else if q=(tA i).toNat then tC i 4 else tT i q)=tT (i+1) q:=by
 obtain⟨h1,h2,h3⟩:=o0m i hi
 have ha:=(tA i).toNat_lt
 unfold tT
 by_cases hq2:q<256
 ·rw[if_neg (by omega),if_pos hq2,if_pos hq2]
  by_cases e:q=(tA i).toNat
  ·rw[if_pos e]
   have:UInt8.ofNat q=tA i:=(d0E hq2).2 e
   rw[this,h1,if_pos (by omega),h2]
  rw[if_neg e]
  have:lg (UInt8.ofNat q)≠i:=fun hh=>e ((d0E hq2).1 ((m0c hi).1 hh))
  by_cases hl:lg (UInt8.ofNat q)<i
  ·rw[if_pos hl,if_pos (by omega)]
  rw[if_neg hl,if_neg (by omega)]
 rw[if_neg hq2,if_neg hq2]
 by_cases e:q=256+(tC i 4).toNat
 ·rw[if_pos e]
  have:UInt8.ofNat (q-256)=tC i 4:=(d0E (by omega)).2 (by omega)
  rw[this,h3,h1,if_pos (by omega)]
 rw[if_neg e,if_neg (by omega)]
 have:lg (iv (UInt8.ofNat (q-256)))≠i:=fun hh=>e (by
  have h4:=(m0c hi).1 hh
  have h5:=q0b (UInt8.ofNat (q-256))
  rw[h4,h2]at h5
  have:=(d0E (q:=q-256) (by omega)).1 h5.symm
  omega)
 by_cases hl:lg (iv (UInt8.ofNat (q-256)))<i
 ·rw[if_pos hl,if_pos (by omega)]
 rw[if_neg hl,if_neg (by omega)]
theorem o0n (q:Nat):tT 256 q=TB q:=by
 unfold tT TB
 rw[if_pos (o0T _),if_pos (o0T _)]
theorem p0r:i0Q (arB 512 TB) 0 sb:=fun v=>by
 have:=v.toNat_lt
 rw[a0u (k:=v.toNat) (by omega) (by omega),TB,if_pos (by omega),UInt8.ofNat_toNat]
theorem p0P (a:UInt8):Go.bits .xor .u8 (a.toNat:Int) 99=((a^^^99).toNat:Int):=c0Q (p:=fun a=>Go.bits .xor .u8 (a.toNat:Int) 99=((a^^^99).toNat:Int)) (by decide +kernel) a
theorem m0B:Sp Tryz.prog 177 [] [] (Is (.agg (arB 512 TB))):=by
 refine yr Tryz.func177 _ Tryz.ntmps177 (fun w0 R0=> ?_)
 refine zB (zr ?_)
 refine AO.opB (O.alloc rfl (by exact b0Q _) (by exact List.length_replicate)) rfl rfl rfl ?_
 intro B1
 refine zE (zm (zB (zr ?_)))
 refine AO.opB (O.alloc rfl (by exact b0Q _) (by exact List.length_replicate)) rfl rfl rfl ?_
 intro B2
 refine zE (zm (zB (zr ?_)))
 refine zc (zE (zm (zB (zB (zr ?_)))))
 refine zb (zE (zm (yT ?_)))
 have e0:arB 256 (fun _=>0)=arB 256 (fun q=>if q<0 then pw q else 0):=a0e fun q _=>(if_neg (by omega)).symm
 rw[e0]
 refine zh [(0,_),(1,_)] (fun nn E H=> ∃(i:Nat),(i≤255)∧nn=255-i∧E= [(2,by8 (pw i)),(10,.val (.int .i64 (i:Int)))]∧H= [.blk B2 181 256 (arB 256 (fun q=>if q<i then pw q else 0)),.blk B1 183 512 (arB 512 fun _=>0)]) _ (⟨0,by omega,rfl,rfl,rfl⟩) ?_
 rintro nn E H ⟨i,hi,rfl,rfl,rfl⟩
 dsimp only[cA,cN]
 refine zB (zr ?_)
 refine zN (zE (zm (zB ?_)))
 refine yk (fun h=> ?_) (fun h=> ?_)<;>(try simp only[wr]at h)
 ·refine yI (zm (zB (yT (zB (zr ?_)))))
  refine zb ?_
  refine zc (zE (zm (zB (zr ?_))))
  refine zb ?_
  refine zb ?_
  refine xW ?_
  refine yA 0 rfl rfl rfl rfl rfl rfl (by rfl) (by rfl) (by exact Nat.ble_eq_true_of_le (by rw[a0b];omega)) (by exact a0I (k:=i) (by omega) _ (by omega)) (zE (zm (zr ?_)))
  refine zb ?_
  refine zb ?_
  refine wl (xl rfl Tryz.func195 rfl rfl rfl (h0R _)) ?_
  refine wl (O.xor_ rfl rfl rfl c0l) ?_
  refine zc (zE (y5 (zm (zr ?_))))
  refine zA ?_
  refine zb (zE ?_)
  have e1:arB 256 (fun q=>if q=i then pw i else if q<i then pw q else 0)=arB 256 (fun q=>if q<i+1 then pw q else 0):=a0e fun q _=>by
   rcases Nat.lt_trichotomy q i with h1|rfl|h1
   ·rw[if_neg (by omega),if_pos h1,if_pos (by omega)]
   ·rw[if_pos rfl,if_pos (by omega)]
   rw[if_neg (by omega),if_neg (by omega),if_neg (by omega)]
  rw[←m0Z i (by omega),e1]
  refine zn _ _ _ (by omega) (⟨i+1,by omega,rfl,rfl,rfl⟩)
 obtain rfl:i=255:=by omega
 refine xx ?_
 refine xp ?_
 refine xu ?_
 refine y2 (zm (zB (zr ?_)))
 refine AO.opB (O.alloc rfl (by exact b0Q _) (by exact List.length_replicate)) rfl rfl rfl ?_
 intro B3
 refine zE (zm (zB (zB (zr ?_))))
 refine zb (zE (zm (yT ?_)))
 obtain⟨PB,hPB⟩: ∃PB,PB=arB 256 (fun q=>if q<255 then pw q else 0):=⟨_,rfl⟩
 have hpg: ∀k,k<255→PB[k]? =some (by8 (pw k)):=fun k hk=>by rw[hPB,a0u (k:=k) (by omega) rfl,if_pos hk]
 rw[←hPB]
 have e2:arB 512 (fun _=>0)=arB 512 (tT 0):=a0e fun q _=>by unfold tT;simp
 rw[e2]
 refine zh [(0,_),(1,_),(4,_)] (fun nn E H=> ∃(i:Nat),(i≤256)∧nn=256-i∧E= [(21,.val (.int .i64 (i:Int)))]∧H= [.blk B3 183 512 (arB 512 (tT i)),.blk B2 181 256 PB,.blk B1 183 512 (arB 512 (tT 0))]) _ (⟨0,by omega,rfl,rfl,rfl⟩) ?_
 rintro nn E H ⟨i,hi2,rfl,rfl,rfl⟩
 dsimp only[cA,cN]
 refine zB (zr ?_)
 refine zN (zE (zm (zB ?_)))
 refine yk (fun h2=> ?_) (fun h2=> ?_)<;>(try simp only[wr]at h2)
 ·have hAl:=(tA i).toNat_lt
  have hCl:=(tC i 4).toNat_lt
  refine yI (zm (zB (yT (zB (zr ?_)))))
  refine zb ?_
  refine zc (zE (zm (zB (zr ?_))))
  refine zc ?_
  refine zc (zE (zm (zB (zB (zr ?_)))))
  refine zb ?_
  refine zN (zE (zm ?_))
  refine xh True [(0,_),(1,_),(4,_),(21,_)] [(6,by8 (tA i)),(7,by8 (tB i))] [.blk B3 183 512 (arB 512 (tT i)),.blk B2 181 256 PB,.blk B1 183 512 (arB 512 (tT 0))] (fun h24=> ?_) (fun h24=> ?_) (fun hj=> ?_)<;>try(try simp only[wr]at h24)
  ·have hg1:PB[0+(i:Int).toNat*1]? =some (by8 (tA i)):=by
    rw[show 0+(i:Int).toNat*1=i by omega,hpg i (by omega),tA,if_pos (by omega)]
   have hg2:PB[0+((255-(i:Int))%255).toNat*1]? =some (by8 (tB i)):=by
    rw[show 0+((255-(i:Int))%255).toNat*1=(255-i)%255 by omega,hpg _ (by omega),tB,if_pos (by omega)]
   refine yv 10 ?_
   simp only[cT,cZ,cD,cO]
   refine zG ?_
   refine yX ?_
   refine wm (O.load rfl rfl mM (by assumption)) ?_
   refine zG ?_
   refine xy ?_
   refine wm wa ?_
   refine yX ?_
   refine wm (O.load rfl rfl mM (by assumption)) ?_
   refine we ?_
   refine we ?_
   refine wh ?_
   simp only[a0l,cN,cA,cP]
   refine zE ?_
   refine AQ.midK0 trivial (by repeat(first|exact a0f|refine a0h rfl ?_)) (by repeat(first|exact a0p|refine a0m 0 rfl ?_))
  ·have hA:a0n (.int .u8 0)=by8 (tA i):=by rw[tA,if_neg (by omega)];rfl
   have hB:a0n (.int .u8 0)=by8 (tB i):=by rw[tB,if_neg (by omega)];rfl
   refine yI ?_
   refine AQ.g ?_
   refine G.re 6 (by8 (tA i)) (congrArg some hA) ?_
   refine AQ.u ?_
   refine AQ.g ?_
   refine G.re 7 (by8 (tB i)) (congrArg some hB) ?_
   refine AQ.u ?_
   refine zV
  dsimp only[cA,cN]
  refine zm (zB (zr ?_))
  refine zb ?_
  refine wl (O.xor_ rfl rfl rfl (p0P _)) ?_
  refine zc (zE (zm (zB (zB (zr ?_)))))
  refine zc (zE (zm (yT ?_)))
  refine zh [(0,_),(1,_),(4,_),(6,_),(7,_),(21,_)] (fun nn E H=> ∃(k:Nat),(k≤4)∧nn=4-k∧E= [(8,by8 (tC i k)),(9,.val (.int .i64 ((k+1:Nat):Int)))]∧H= [.blk B3 183 512 (arB 512 (tT i)),.blk B2 181 256 PB,.blk B1 183 512 (arB 512 (tT 0))]) _ (⟨0,by omega,rfl,rfl,rfl⟩) ?_
  rintro nn E H ⟨k,hk,rfl,rfl,rfl⟩
  dsimp only[cA,cN]
  refine zB (zB (zr ?_))
  refine zb ?_
  refine wl xF (zE (zm ?_))
  refine yk (fun h4=> ?_) (fun h4=> ?_)<;>(try simp only[wr]at h4)
  ·refine yI (zm (zB (yT (zr ?_))))
   refine zb ?_
   refine zb ?_
   refine zb ?_
   refine wl (xl rfl Tryz.func196 rfl rfl rfl (m0O _ (k+1) (by omega))) ?_
   refine wl (O.xor_ rfl rfl rfl c0l) ?_
   refine zc (zE (y5 (zm (zr ?_))))
   refine zb ?_
   refine zA ?_
   refine zc (zE ?_)
   refine zn _ _ _ (by omega) (⟨k+1,by omega,rfl,rfl,rfl⟩)
  obtain rfl:k=4:=by omega
  refine xx ?_
  refine xp ?_
  refine xu ?_
  refine y2 (zm (zr ?_))
  refine zb ?_
  refine zb ?_
  refine zb ?_
  refine zb ?_
  refine zq ?_
  refine xW ?_
  refine yA 0 rfl rfl rfl rfl rfl rfl (by rfl) (by rfl) (by exact Nat.ble_eq_true_of_le (by rw[a0b];omega)) (by exact a0I (k:=(tA i).toNat) (by omega) _ (by omega)) ?_
  refine zq ?_
  refine xW ?_
  refine yA 0 rfl rfl rfl rfl rfl rfl (by rfl) (by rfl) (by exact Nat.ble_eq_true_of_le (by rw[a0b];omega)) (by exact a0I (k:=256+(tC i 4).toNat) (by omega) _ (by omega)) (zE (y5 (zm (zr ?_))))
  refine zA ?_
  refine zb (zE ?_)
  have e4:arB 512 (fun q=>if q=256+(tC i 4).toNat then tA i else if q=(tA i).toNat then tC i 4 else tT i q)=arB 512 (tT (i+1)):=a0e fun q hq=>m0A (by omega) q hq
  rw[e4]
  refine zn _ _ _ (by omega) (⟨i+1,by omega,rfl,rfl,rfl⟩)
 obtain rfl:i=256:=by omega
 have e5:arB 512 (tT 256)=arB 512 TB:=a0e fun q _=>o0n q
 rw[e5]
 refine xx ?_
 refine xp ?_
 refine xu ?_
 refine y2 (zm (zB (zr ?_)))
 refine xw ?_
 refine y4 2 (zE (zm (yR ?_)))
 refine AQ.retCell (ys:=arB 512 TB) rfl rfl mM (List.take_of_length_le (Nat.le_of_eq (a0b _ _))) (a0b _ _) nS ⟨rfl,rfl⟩
def rcF:Nat→UInt8
 |0=>1
 |k+1=>dbl (rcF k)
def wS (key:Nat→UInt8)(q:Nat):UInt8:=
 if h:q<16 then key q else
  (if q%16<4 then sb (wS key (q-q%16-4+(q%16+1)%4))^^^ (if q%16=0 then rcF (q/16-1)else 0)else wS key (q-4))^^^wS key (q-16)
termination_by q
decreasing_by all_goals omega
theorem l0M {key:Nat→UInt8}{q:Nat}(h:q<16):wS key q=key q:=by rw[wS,dif_pos h]
theorem p0S {key:Nat→UInt8}{q:Nat}(h: ¬q<16):wS key q=(if q%16<4 then sb (wS key (q-q%16-4+(q%16+1)%4))^^^ (if q%16=0 then rcF (q/16-1)else 0)else wS key (q-4))^^^wS key (q-16):=by
 rw[wS,dif_neg h]
def zS (key:Nat→UInt8)(i m:Nat):UInt8:=if m<4 then sb (wS key (16*i-4+(m+1)%4))^^^ (if m=0 then rcF (i-1)else 0)else wS key (16*i+m-4)
theorem p0T (key:Nat→UInt8){i m:Nat}(hi:1≤i)(hm:m<16):wS key (16*i+m)=zS key i m^^^wS key (16*(i-1)+m):=by
 rw[wS,dif_neg (by omega)]
 have h1:(16*i+m)%16=m:=by omega
 have h2:(16*i+m)/16=i:=by omega
 rw[h1,h2,show 16*i+m-16=16*(i-1)+m by omega,show 16*i+m-m-4=16*i-4 by omega,zS]
def cut (key:Nat→UInt8)(n q:Nat):UInt8:=if q<n then wS key q else 0
theorem k0i {key:Nat→UInt8}{n k j:Nat}(h:k<n)(h2:n≤176)(hj:j=k):(arB 176 (cut key n))[j]? =some (by8 (wS key k)):=by
 rw[a0u (k:=k) (by omega) hj,cut,if_pos h]
def tz (key:Nat→UInt8)(i k j:Nat):UInt8:=zS key i (k+(j+4-k%4)%4)
theorem p0U (key:Nat→UInt8)(i k:Nat):tz key i k (k%4)=zS key i k:=by
 unfold tz;congr 1;omega
theorem o0k {key:Nat→UInt8}{i k j:Nat}(hj:j=k%4):(arB 4 (tz key i k))[j]? =some (by8 (zS key i k)):=by
 rw[a0u (k:=k%4) (by omega) hj,p0U]
theorem m0y {key:Nat→UInt8}{i k:Nat}(q:Nat)(hq:q<4):(if q=k%4 then wS key (16*i+k)else tz key i k q)=tz key i (k+1) q:=by
 unfold tz
 by_cases h:q=k%4
 ·rw[if_pos h,zS,if_neg (by omega)]
  congr 1;omega
 rw[if_neg h];congr 1;omega
theorem p0H (a:UInt8):a^^^0=a:=UInt8.xor_zero
theorem n0F (key:Nat→UInt8):a0c (arB 176 fun _=>0) 0 ((arB 16 key).take 16)=arB 176 (cut key 16):=by
 rw[List.take_of_length_le (Nat.le_of_eq (a0b _ _)),d0h (by omega)]
 refine a0e fun q hq=> ?_
 unfold cut
 by_cases h:q<16
 ·rw[if_pos (by omega),if_pos h,l0M h];rfl
 rw[if_neg (by omega),if_neg h]
theorem k0O (key:Nat→UInt8)(xs:List AV)(hx:i0Q xs 0 sb):Sp Tryz.prog 178 [.rp xs 0,.ro false 16 (arB 16 key)] [] (Is (.agg (arB 176 (wS key)))):=by
 refine yr Tryz.func178 _ Tryz.ntmps178 (fun w0 R0=> ?_)
 refine zB (zr ?_)
 refine AO.opB (O.alloc rfl (by exact b0Q _) (by exact List.length_replicate)) rfl rfl rfl ?_
 intro B1
 refine zE (zm (zB (zr ?_)))
 refine xW ?_
 refine wl (O.sliceArrK (p:=0) rfl rfl rfl rfl (by rfl) (by rfl) ⟨by omega,by omega⟩ (by omega)) ?_
 refine zb ?_
 refine AO.copyIn (i:=0) rfl rfl rfl rfl (by exact a0b _ _) (by exact c0w _ _) rfl (by rw[a0b];omega) (by exact n0F key) rfl rfl (fun q h=>by cases h;exact lB rfl) ?_
 rintro _ rfl
 dsimp only[List.set]
 refine zE (zm (zB (zr ?_)))
 refine zc (zE (zm (zB (zB (zr ?_)))))
 refine zc (zE (zm (yT ?_)))
 refine zh [(0,_),(4,_)] (fun nn E H=> ∃(i:Nat),(1≤i∧i≤11)∧nn=11-i∧E= [(5,by8 (rcF (i-1))),(6,.val (.int .i64 (i:Int)))]∧H= [.blk B1 186 176 (arB 176 (cut key (16*i)))]) _ (⟨1,by omega,rfl,rfl,rfl⟩) ?_
 rintro nn E H ⟨i,hi,rfl,rfl,rfl⟩
 dsimp only[cA,cN]
 refine zB (zB (zr ?_))
 refine zb ?_
 refine zN (zE (zm ?_))
 refine yk (fun h=> ?_) (fun h=> ?_)<;>(try simp only[wr]at h)
 ·have hi':i<11:=by omega
  have hlast: ∀j:Nat,j<4→(arB 176 (cut key (16*i)))[0+((i:Int)-1).toNat*16+12*1+j*1]? =some (by8 (wS key (16*i-4+j))):=fun j hj=>k0i (by omega) (by omega) (by omega)
  have hl0:=hlast 0 (by omega)
  have hl1:=hlast 1 (by omega)
  have hl2:=hlast 2 (by omega)
  have hl3:=hlast 3 (by omega)
  refine yI (zm (zB (yT (zB (zr ?_)))))
  refine zb ?_
  refine yN ?_
  refine xW ?_
  refine wl (O.sliceArrK (p:=12) rfl rfl rfl rfl (by rfl) (by rfl) ⟨by omega,by omega⟩ (by omega)) ?_
  refine zc (zE (zm (zB ?_)))
  refine yv 36 ?_
  simp only[cT,cZ,cD,cO]
  refine zG ?_
  refine zG ?_
  refine wm (O.idxV rfl rfl rfl (by exact⟨by omega,by omega⟩)) ?_
  refine wm (O.load rfl rfl (by repeat(exact List.Mem.head _)) (by exact hl1)) ?_
  refine wm (O.nilCheckR rfl rfl) ?_
  refine wm (O.fieldAddrR rfl rfl) ?_
  refine wm (O.idxLR rfl rfl rfl (by exact o0i _)) ?_
  refine wm (O.loadR rfl rfl (by exact e0p hx _)) ?_
  refine zG ?_
  refine wm (O.xor_ rfl rfl rfl c0l) ?_
  refine zG ?_
  refine zG ?_
  refine wm (O.idxV rfl rfl rfl (by exact⟨by omega,by omega⟩)) ?_
  refine wm (O.load rfl rfl (by repeat(exact List.Mem.head _)) (by exact hl2)) ?_
  refine wm (O.nilCheckR rfl rfl) ?_
  refine wm (O.fieldAddrR rfl rfl) ?_
  refine wm (O.idxLR rfl rfl rfl (by exact o0i _)) ?_
  refine wm (O.loadR rfl rfl (by exact e0p hx _)) ?_
  refine zG ?_
  refine zG ?_
  refine wm (O.idxV rfl rfl rfl (by exact⟨by omega,by omega⟩)) ?_
  refine wm (O.load rfl rfl (by repeat(exact List.Mem.head _)) (by exact hl3)) ?_
  refine wm (O.nilCheckR rfl rfl) ?_
  refine wm (O.fieldAddrR rfl rfl) ?_
  refine wm (O.idxLR rfl rfl rfl (by exact o0i _)) ?_
  refine wm (O.loadR rfl rfl (by exact e0p hx _)) ?_
  refine zG ?_
  refine zG ?_
  refine wm (O.idxV rfl rfl rfl (by exact⟨by omega,by omega⟩)) ?_
  refine wm (O.load rfl rfl (by repeat(exact List.Mem.head _)) (by exact hl0)) ?_
  refine wm (O.nilCheckR rfl rfl) ?_
  refine wm (O.fieldAddrR rfl rfl) ?_
  refine wm (O.idxLR rfl rfl rfl (by exact o0i _)) ?_
  refine wm (O.loadR rfl rfl (by exact e0p hx _)) ?_
  refine wm yi ?_
  refine FA.opN (O.alloc rfl (by(dsimp only[List.set,List.append,cA,cN,a0c,a0n,AV.cells,List.map,List.map_cons,List.map_nil,List.take,List.drop,Nat.zero_add,Nat.add_zero,Nat.reduceAdd,Nat.reduceMul,Nat.zero_mul,Value.cells,List.toList_toArray,a0o,List.replicate,List.flatten,cP];done)) (by rfl)) rfl rfl rfl rfl ?_
  refine wh ?_
  simp only[a0l,cN,cA,cP]
  rintro _ _ ⟨B2,rfl,rfl⟩
  simp only[cA,cN]
  refine AO.store (i:=0) rfl rfl rfl rfl rfl rfl (by rfl) (by rfl) (by rfl) (by(dsimp only[List.set,List.append,cA,cN,a0c,a0n,AV.cells,List.map,List.map_cons,List.map_nil,List.take,List.drop,Nat.zero_add,Nat.add_zero,Nat.reduceAdd,Nat.reduceMul,Nat.zero_mul,Value.cells,List.toList_toArray,a0o,List.replicate,List.flatten,cP];done)) (by(dsimp only[List.set,List.append,cA,cN,a0c,a0n,AV.cells,List.map,List.map_cons,List.map_nil,List.take,List.drop,Nat.zero_add,Nat.add_zero,Nat.reduceAdd,Nat.reduceMul,Nat.zero_mul,Value.cells,List.toList_toArray,a0o,List.replicate,List.flatten,cP];done)) (zE (zm (zB (zr ?_))))
  refine zb ?_
  refine wl (xl rfl Tryz.func195 rfl rfl rfl (h0R _)) ?_
  refine zc (zE (zm (zB (zr ?_))))
  refine zb (zE (zm (yT ?_)))
  have hz: [AV.val (.int .u8 ((sb (wS key (16*i-4+1))^^^rcF (i-1)).toNat:Int)),by8 (sb (wS key (16*i-4+2))),by8 (sb (wS key (16*i-4+3))),by8 (sb (wS key (16*i-4)))]=arB 4 (tz key i 0):=by
   show _= [by8 (zS key i 0),by8 (zS key i 1),by8 (zS key i 2),by8 (zS key i 3)]
   have z0:zS key i 0=sb (wS key (16*i-4+1))^^^rcF (i-1):=rfl
   have z1:zS key i 1=sb (wS key (16*i-4+2)):=p0H _
   have z2:zS key i 2=sb (wS key (16*i-4+3)):=p0H _
   have z3:zS key i 3=sb (wS key (16*i-4)):=p0H _
   rw[z0,z1,z2,z3]
  rw[hz]
  have hrc:dbl (rcF (i-1))=rcF (i+1-1):=by
   rw[show i+1-1=(i-1)+1 by omega,rcF]
  rw[hrc]
  refine zh [(0,_),(4,_),(5,_),(6,_),(8,_)] (fun nn E H=> ∃(k:Nat),(k≤16)∧nn=16-k∧E= [(59,.val (.int .i64 (k:Int)))]∧H= [.blk B2 215 4 (arB 4 (tz key i k)),.blk B1 186 176 (arB 176 (cut key (16*i+k)))]) _ (⟨0,by omega,rfl,rfl,rfl⟩) ?_
  rintro nn E H ⟨k,hk,rfl,rfl,rfl⟩
  dsimp only[cA,cN]
  refine zB (zr ?_)
  refine zN (zE (zm (zB ?_)))
  refine yk (fun h2=> ?_) (fun h2=> ?_)<;>(try simp only[wr]at h2)
  ·have hk':k<16:=by omega
   refine yI (zm (zB (yT (zB (zr ?_)))))
   refine zb ?_
   refine zc (zE (zm (zB ?_)))
   refine yv 12 ?_
   simp only[cT,cZ,cD,cO]
   refine zG ?_
   refine wm wa ?_
   refine yX ?_
   refine wm (O.load rfl rfl (by repeat(exact List.Mem.head _)) (by exact o0k (k:=k) (by omega))) ?_
   refine zG ?_
   refine xy ?_
   refine zG ?_
   refine yX ?_
   refine yX ?_
   refine wm (O.load rfl rfl mM (by exact k0i (k:=16*(i-1)+k) (by omega) (by omega) (by omega))) ?_
   refine wm (O.xor_ rfl rfl rfl c0l) ?_
   refine yX ?_
   refine wh ?_
   simp only[a0l,cN,cA,cP]
   refine AO.store (i:=0) rfl rfl rfl rfl rfl rfl (by rfl) (by rfl) (by exact Nat.ble_eq_true_of_le (by rw[a0b];omega)) (by exact a0I (k:=k%4) (by omega) _ (by omega)) (by(dsimp only[List.set,List.append,cA,cN,a0c,a0n,AV.cells,List.map,List.map_cons,List.map_nil,List.take,List.drop,Nat.zero_add,Nat.add_zero,Nat.reduceAdd,Nat.reduceMul,Nat.zero_mul,Value.cells,List.toList_toArray,a0o,List.replicate,List.flatten,cP];done)) (zE (zm ?_))
   refine yv 8 ?_
   simp only[cT,cZ,cD,cO]
   refine zG ?_
   refine zG ?_
   refine zG ?_
   refine wm wa ?_
   refine yX ?_
   refine wm (O.load rfl rfl (by repeat(exact List.Mem.head _)) (by exact a0u (k:=k%4) (by omega) (by omega))) ?_
   refine yX ?_
   refine yX ?_
   refine wh ?_
   simp only[a0l,cN,cA,cP]
   refine AO.store (i:=1) rfl rfl rfl rfl rfl rfl (by rfl) (by rfl) (by exact Nat.ble_eq_true_of_le (by rw[a0b];omega)) (by exact a0I (k:=16*i+k) (by omega) _ (by omega)) (by(dsimp only[List.set,List.append,cA,cN,a0c,a0n,AV.cells,List.map,List.map_cons,List.map_nil,List.take,List.drop,Nat.zero_add,Nat.add_zero,Nat.reduceAdd,Nat.reduceMul,Nat.zero_mul,Value.cells,List.toList_toArray,a0o,List.replicate,List.flatten,cP];done)) (zE (y5 (zm (zr ?_))))
   refine zA ?_
   refine zb (zE ?_)
   have hw:=p0T key hi.1 hk'
   have e1:arB 4 (fun q=>if q=k%4 then zS key i k^^^wS key (16*(i-1)+k)else tz key i k q)=arB 4 (tz key i (k+1)):=a0e fun q hq=>by
    rw[←hw];exact m0y q hq
   have e2:arB 176 (fun q=>if q=16*i+k then(if True then zS key i k^^^wS key (16*(i-1)+k)else tz key i k (k%4))else cut key (16*i+k) q)=arB 176 (cut key (16*i+(k+1))):=a0e fun q hq=>by
    rw[if_pos trivial,←hw]
    unfold cut
    rcases Nat.lt_trichotomy q (16*i+k)with h1|h1|h1
    ·rw[if_neg (by omega),if_pos h1,if_pos (by omega)]
    ·rw[if_pos h1,if_pos (by omega),h1]
    rw[if_neg (by omega),if_neg (by omega),if_neg (by omega)]
   rw[e1,e2]
   refine zn _ _ _ (by omega) (⟨k+1,by omega,rfl,rfl,rfl⟩)
  obtain rfl:k=16:=by omega
  refine xx ?_
  refine xp ?_
  refine xu ?_
  refine y2 (y5 (zm (zr ?_)))
  refine zb ?_
  refine zA ?_
  refine zc (zE ?_)
  refine zH _ _ _ (by omega) (⟨i+1,by omega,rfl,rfl,rfl⟩)
 obtain rfl:i=11:=by omega
 have e:arB 176 (cut key (16*11))=arB 176 (wS key):=a0e fun q hq=>if_pos hq
 rw[e]
 refine xx ?_
 refine xp ?_
 refine xu ?_
 refine y2 (zm (zB (zr ?_)))
 refine xw ?_
 refine AO.store (i:=0) rfl rfl rfl rfl rfl rfl (by exact c0w _ _) (by exact a0b _ _) (by exact Nat.ble_eq_true_of_le (Nat.le_of_eq (a0b _ _).symm)) (by exact b0l (a0b _ _)) (by(dsimp only[List.set,List.append,cA,cN,a0c,a0n,AV.cells,List.map,List.map_cons,List.map_nil,List.take,List.drop,Nat.zero_add,Nat.add_zero,Nat.reduceAdd,Nat.reduceMul,Nat.zero_mul,Value.cells,List.toList_toArray,a0o,List.replicate,List.flatten,cP];done)) (zE (zm (yR ?_)))
 refine AQ.retCell (ys:=arB 176 (wS key)) rfl rfl (by repeat(exact List.Mem.head _)) (List.take_of_length_le (Nat.le_of_eq (a0b _ _))) (a0b _ _) nS ⟨rfl,rfl⟩
theorem l0E {n:Nat}{f:Nat→UInt8}{v:UInt8}(h:v=f n):arB n f++[by8 v]=arB (n+1) f:=by
 subst h;rw[b0Z,b0Z,List.range_succ,List.map_append];rfl
def j0Q (q:Nat):UInt8:= [2,3,1,1].getD q 0
def q0q (q:Nat):UInt8:= [14,11,13,9].getD q 0
def g0l (w f:Nat→UInt8):Nat→Nat→UInt8
 |0=>fun q=>f q^^^w (0*16+q)
 |i+1=>fun q=>(if i+1<10 then f0T (shF sb 1 (g0l w f i)) j0Q else shF sb 1 (g0l w f i)) q^^^w ((i+1)*16+q)
def enc (w f:Nat→UInt8):Nat→UInt8:=g0l w f 10
def r0s (ys:List AV)(o:Nat)(w:Nat→UInt8):Prop:= ∀i,i<11→(ys.drop (o+i*16)).take 16=arB 16 fun q=>w (i*16+q)
theorem i0D (b:Nat)(f w:Nat→UInt8)(xs ys:List AV)(o oy:Nat)(hx:i0Q xs o sb)(hw:r0s ys oy w):Sp Tryz.prog 197 [.rp xs o,.rp ys oy,pt b] [stB b f] (IsM (.val (.tuple #[])) (stB b (enc w f))):=by
 refine yr Tryz.func197 _ Tryz.ntmps197 (fun w0 R0=> ?_)
 refine zB (zr ?_)
 refine zb ?_
 refine zb ?_
 refine wl (O.nilCheckR rfl rfl) ?_
 refine wl (O.idxLR rfl rfl rfl ⟨(by omega),(by omega)⟩) ?_
 refine wl (O.loadRK rfl rfl (by exact hw 0 (by omega)) (by exact a0b _ _)) ?_
 refine AO.callM1 (i:=0) rfl rfl Tryz.func206 rfl rfl rfl rfl rfl rfl (g0G _ _ _) (by(dsimp only[List.set,cA,cN,List.take,List.drop];done)) (zE (zm (zB (zr ?_))))
 refine zc (zE (zm (yT ?_)))
 refine zh [(0,_),(1,_),(2,_)] (fun nn E H=> ∃(j:Nat),(j≤10)∧nn=10-j∧E= [(6,.val (.int .i64 ((j+1:Nat):Int)))]∧H= [stB b (g0l w f j)]) _ (⟨0,by omega,rfl,rfl,rfl⟩) ?_
 rintro nn E H ⟨j,hj,rfl,rfl,rfl⟩
 dsimp only[cA,cN]
 refine zB (zB (zr ?_))
 refine zb ?_
 refine zN (zE (zm ?_))
 refine yk (fun h=> ?_) (fun h=> ?_)<;>(try simp only[wr]at h)
 ·refine yI (zm (zB (yT (zB (zr ?_)))))
  refine zb ?_
  refine zb ?_
  refine wl (O.nilCheckR rfl rfl) ?_
  refine wl (O.fieldAddrR rfl rfl) ?_
  refine AO.callM1 (i:=0) rfl rfl Tryz.func207 rfl rfl rfl rfl rfl rfl (j0l _ _ _ _ _ hx) (by(dsimp only[List.set,cA,cN,List.take,List.drop];done)) (zE (zm (zB (zB (zr ?_)))))
  refine zb ?_
  refine zN (zE (zm ?_))
  refine yk (fun h23=> ?_) (fun h23=> ?_)<;>(try simp only[wr]at h23)
  ·have e:(fun q=>f0T (shF sb 1 (g0l w f j)) j0Q q^^^w ((j+1)*16+q))=g0l w f (j+1):=by rw[g0l,if_pos (by omega)]
   refine zr ?_
   refine zb ?_
   refine zT ?_
   refine AO.callM1 (i:=0) rfl rfl Tryz.func208 rfl rfl rfl rfl rfl rfl (o0R _ _ j0Q) (by(dsimp only[List.set,cA,cN,List.take,List.drop];done)) (zE (zm (zr ?_)))
   refine zb ?_
   refine zb ?_
   refine zb ?_
   refine wl (O.nilCheckR rfl rfl) ?_
   refine wl (O.idxLR rfl rfl rfl ⟨(by omega),(by omega)⟩) ?_
   refine wl (O.loadRK rfl rfl (by exact hw (j+1) (by omega)) (by exact a0b _ _)) ?_
   refine AO.callM1 (i:=0) rfl rfl Tryz.func206 rfl rfl rfl rfl rfl rfl (g0G _ _ _) (by(dsimp only[List.set,cA,cN,List.take,List.drop];done)) (zE (y5 (zm (zr ?_))))
   refine zb ?_
   refine zA ?_
   refine zc (zE ?_)
   rw[e]
   refine zn _ _ _ (by omega) (⟨j+1,by omega,rfl,rfl,rfl⟩)
  have e:(fun q=>shF sb 1 (g0l w f j) q^^^w ((j+1)*16+q))=g0l w f (j+1):=by rw[g0l,if_neg (by omega)]
  refine yI (zm (zr ?_))
  refine zb ?_
  refine zb ?_
  refine zb ?_
  refine wl (O.nilCheckR rfl rfl) ?_
  refine wl (O.idxLR rfl rfl rfl ⟨(by omega),(by omega)⟩) ?_
  refine wl (O.loadRK rfl rfl (by exact hw (j+1) (by omega)) (by exact a0b _ _)) ?_
  refine AO.callM1 (i:=0) rfl rfl Tryz.func206 rfl rfl rfl rfl rfl rfl (g0G _ _ _) (by(dsimp only[List.set,cA,cN,List.take,List.drop];done)) (zE (y5 (zm (zr ?_))))
  refine zb ?_
  refine zA ?_
  refine zc (zE ?_)
  rw[e]
  refine zn _ _ _ (by omega) (⟨j+1,by omega,rfl,rfl,rfl⟩)
 obtain rfl:j=10:=by omega
 refine xx ?_
 refine xp ?_
 refine xu ?_
 refine y2 ?_
 refine AQ.retN (AQ.ret0 rfl ⟨_,by repeat(first|exact List.Sublist.slnil|refine List.Sublist.cons_cons _ ?_),List.Perm.refl _⟩ (⟨rfl,rfl⟩))
def e0F (w:Nat→UInt8):List AV:=arB 512 TB++arB 176 w
theorem m0k (w:Nat→UInt8):i0Q (e0F w) 0 sb:=fun v=>by
 have h:=p0r v
 have:=v.toNat_lt
 unfold e0F
 rw[List.getElem?_append_left (by rw[a0b];omega)];exact h
theorem p0o (w:Nat→UInt8):r0s (e0F w) 512 w:=fun i hi=>by
 unfold e0F
 rw[List.drop_append,List.drop_eq_nil_of_le (by rw[a0b];omega),cN,a0b,Nat.add_sub_cancel_left]
 exact m0q (by omega)
theorem l0B:e0F (fun _=>0)=arB 688 (fun q=>if 0≤q∧q<0+512 then TB (q-0)else 0):=by
 unfold e0F
 rw[n0M]
 refine a0e fun q hq=> ?_
 by_cases h:q<512
 ·rw[if_pos h,if_pos (by omega)];rfl
 rw[if_neg h,if_neg (by omega)]
theorem n0G (w:Nat→UInt8){j:Nat}(hj:j=512):a0c (e0F fun _=>0) j (arB 176 w)=e0F w:=by
 subst hj
 unfold e0F
 rw[b0y _ _ _ (by rw[cH,a0b,a0b,a0b];omega),a0b,List.take_left' (a0b _ _),List.drop_eq_nil_of_le (by rw[cH,a0b,a0b];omega),cP]
theorem k0l (w:Nat→UInt8):(e0F w).length=688:=by unfold e0F;rw[cH,a0b,a0b]
instance (priority:=2000) cip83:TyB Tryz.prog 188 [(0,512),(512,176)] (.agg ⟨List.replicate 688 (.int .u8 0)⟩):=⟨Tryz.t188,Tryz.type188,by kernel_rfl,.inl ⟨_,Tryz.underlying188,rfl⟩⟩
theorem p0h:c0n ([(0,512),(512,176)][·]?) ((Value.agg ⟨List.replicate 688 (.int .u8 0)⟩).cells.toList.map AV.val) [(0,.agg (arB 512 TB))]=some (e0F fun _=>0):=by
 have hz:((Value.agg ⟨List.replicate 688 (.int .u8 0)⟩).cells.toList.map AV.val)=arB 688 (fun _=>0):=b0Q 688
 rw[hz]
 unfold c0n
 have h1:(AV.agg (arB 512 TB)).cells.length=512:=a0b _ _
 have h2:(arB 688 fun _=>0).length=688:=a0b _ _
 simp only[List.getElem?_cons_zero,h1,h2]
 rw[show(Nat.beq 512 512&&Nat.ble (0+512) 688)=true from by decide]
 simp only[cond_true,c0n]
 refine congrArg some ?_
 show a0c (arB 688 fun _=>0) 0 (arB 512 TB)=_
 rw[d0h (by omega),←l0B]
def kf (l:List UInt8):Nat→UInt8:=fun q=>l.getD q 0
theorem m0f {l:List UInt8}{n:Nat}(h:l.length=n):fnB n (kf l)=l:=by
 subst h
 apply List.ext_getElem?
 intro q
 by_cases hq:q<l.length
 ·simp[fnB,kf,hq]
 simp[fnB,hq]
theorem o0t {l:List UInt8}{n:Nat}(h:l.length=n):roB l= .ro false n (arB n (kf l)):=by
 rw[←f0p,m0f h]
theorem k0w (key:Nat→UInt8):Sp Tryz.prog 157 [.ro false 16 (arB 16 key)] [] (a0S pt 188 688 (e0F (wS key))):=by
 refine yr Tryz.func157 _ Tryz.ntmps157 (fun w0 R0=> ?_)
 refine zB (zr ?_)
 refine zc (zE (zm (zB (zr ?_))))
 refine wl (xl rfl Tryz.func177 rfl rfl rfl m0B) ?_
 refine wl (O.build rfl rfl rfl (by exact p0h)) ?_
 refine ya ?_
 intro B1
 refine zc (zE (zm (zB (zr ?_))))
 refine zb ?_
 refine zb ?_
 refine wl (O.nilCheck rfl rfl) ?_
 refine zq ?_
 refine zb ?_
 refine wl (O.callLB rfl Tryz.func178 rfl rfl rfl (by repeat(exact List.Mem.head _)) (k0O _ _ (m0k _)) (j0E _ _) (by(repeat(first|exact LendB.nil|refine LendB.lend ?_|refine LendB.same ?_));done)) ?_
 refine wl (O.nilCheck rfl rfl) ?_
 refine zq ?_
 refine AO.store (i:=0) rfl rfl rfl rfl rfl rfl (by exact c0w _ _) (by exact a0b _ _) (by exact Nat.ble_eq_true_of_le (Nat.le_of_eq (k0l _).symm)) (by exact n0G _ rfl) (by(dsimp only[List.set,List.append,cA,cN,AV.cells,a0c,List.take,List.drop,Nat.reduceAdd];done)) (zE (zm (zB (zr ?_))))
 refine zb ?_
 refine zc (zE (zm (yR ?_)))
 rw[k0l]
 refine AQ.ret1 rfl rfl ⟨_,by repeat(first|exact List.Sublist.slnil|refine List.Sublist.cons_cons _ ?_),List.Perm.refl _⟩ (⟨B1,rfl,rfl⟩)
theorem f0N (w f:Nat→UInt8):Sp Tryz.prog 179 [.rp (e0F w) 0,.agg (arB 16 f)] [] (Is (.agg (arB 16 (enc w f)))):=by
 refine yr Tryz.func179 _ Tryz.ntmps179 (fun w0 R0=> ?_)
 refine zB (zr ?_)
 refine ya ?_
 intro B1
 refine zd ?_
 intro B2
 refine zE (zm (zB (zr ?_)))
 refine xO ?_
 refine zd ?_
 intro B3
 refine y6 0 (zE (zm (zB ?_)))
 refine yv 6 ?_
 simp only[cT,cZ,cD,cO]
 refine zG ?_
 refine wm (O.nilCheckR rfl rfl) ?_
 refine wm (O.fieldAddrR rfl rfl) ?_
 refine zG ?_
 refine wm (O.nilCheckR rfl rfl) ?_
 refine wm (O.fieldAddrR rfl rfl) ?_
 refine wh ?_
 simp only[a0l,cN,cA,cP]
 refine AO.callM1 (i:=0) rfl rfl Tryz.func197 rfl rfl rfl rfl rfl rfl (i0D _ f w (e0F w) (e0F w) 0 512 (m0k w) (p0o w)) (by(dsimp only[List.set,cA,cN,List.take,List.drop];done)) (zE (zm (zB (zr ?_))))
 refine xw ?_
 refine y6 1 (zE (zm (yR ?_)))
 refine AQ.retCell rfl rfl mM (by rfl) rfl nS (⟨rfl,rfl⟩)
def n0Q (w f:Nat→UInt8):Nat→Nat→UInt8
 |0=>f
 |k+1=>shF iv 3 (if 10-k<10 then f0T (fun q=>n0Q w f k q^^^w ((10-k)*16+q)) q0q else fun q=>n0Q w f k q^^^w ((10-k)*16+q))
def dec (w f:Nat→UInt8)(q:Nat):UInt8:=n0Q w f 10 q^^^w (0*16+q)
def bk (i q:Nat):UInt8:=if(iv (UInt8.ofNat q)).toNat<i then iv (UInt8.ofNat q)else 0
end Go.Proofs.YtojomcdjcpmnkaaGreat.By
namespace Go.Proofs.YtojomcdjcpmnkaaGreat.A
open Go.RowKit L
section
variable {P:Program}
theorem Sp.frozen {f:FuncId}{args:List AV}{T:TypeId}{sz n:Nat}{ys:List AV}(h:Sp P f args [] (b0q T sz n ys)):Sp P f args [] (Is (.ro false n ys)):=fun W R us h1 h2 h3 h4=>by
 refine(h W R us h1 h2 h3 h4).mono ?_
 rintro e W' ⟨u,r,H',R',rfl,⟨v,rfl,hv1,rfl⟩,hs,hv⟩
 have hok:=hs.ok _ (List.mem_cons_self ..)
 have hown:=hs.own _ (List.mem_cons_self ..)
 have hu:=hv.val_inv
 subst hu
 refine⟨u,.ro false n ys,[],fun b=>R' b∨(HE.row u T sz n ys).foot b,rfl,⟨rfl,rfl⟩,⟨hs.mods,?_,fun b hb=> .inl (hs.rsub b hb),?_,fun _ h=>(by cases h),fun _ h=>(by cases h),.nil⟩,j0p hok⟩
 ·rintro b (hb|hb)
  ·exact hs.rlt b hb
  ·exact HE.ok_lt hok hb
 ·rintro b (hb|hb)
  ·exact hs.rnew b hb
  ·exact .inr (hown b hb).1
end
end Go.Proofs.YtojomcdjcpmnkaaGreat.A
namespace Go.Proofs.YtojomcdjcpmnkaaGreat.By
open Go.RowKit L A
attribute [local irreducible] AW AQ AO
theorem o0j (x:Int):0≤IntKind.u64.wrap x:=by rw[IntKind.wrap_u64];exact Int.emod_nonneg _ (by decide)
def k0K (k:Int)(i:Nat):UInt8:=u8 (((u8 ((IntKind.u64.wrap k).fdiv (2^min (IntKind.u64.wrap (8*IntKind.u64.wrap ((i:Int).tmod 8))).toNat IntKind.u64.bits))).toNat:Int)+((u8 (IntKind.i64.wrap ((i:Int).tdiv 8))).toNat:Int))
def j0g (k:Int)(n:Nat):List UInt8:=fnB n (k0K k)
theorem j0f (k:Int)(n:Nat):(j0g k n).length=n:=d0b _ _
theorem k0J (k:Int)(n:Nat)(hn:n≤1000000):Sp Tryz.prog 107 [.val (.int .i64 k),.val (.int .i64 (n:Int))] [] (b0q 5 1 n (arB n (k0K k))):=by
 refine yr Tryz.func107 _ Tryz.ntmps107 (fun w0 R0=> ?_)
 refine zB (zr ?_)
 refine zc (zE (zm (zB (zr ?_))))
 refine zc (zE (zm (zB (zB (zr ?_)))))
 refine zb ?_
 refine zb (zE (zm (yT ?_)))
 refine AW.g ?_
 refine G.nilRow 5 1 ?_
 refine AW.u ?_
 refine zh [(0,_),(7,_)] (fun nn E H=> ∃(i:Nat) (V:Value),(i≤n)∧(V.oneCell'=true)∧nn=n-i∧E= [(5,.val V),(8,.val (.int .i64 (i:Int)))]∧H= [.row V 5 1 i (arB i (k0K k))]) _ (⟨0,_,by omega,rfl,rfl,rfl,rfl⟩) ?_
 rintro nn E H ⟨i,V,h1,hV,rfl,rfl,rfl⟩
 dsimp only[cA,cN]
 have hsh:=o0j (8*IntKind.u64.wrap ((i:Int).tmod 8))
 refine zB (zr ?_)
 refine zN (zE (zm (zB ?_)))
 refine yk (fun h=> ?_) (fun h=> ?_)<;>(try simp only[wr]at h)
 ·refine yI (zm (zB (yT (zB (zr ?_)))))
  refine zb ?_
  refine zc (zE (zm (zr ?_)))
  refine zb ?_
  refine zb ?_
  refine wl (O.conv rfl rfl (by rfl)) ?_
  refine zb ?_
  refine wl (O.rem rfl rfl rfl (by omega) rfl) ?_
  refine wl (O.conv rfl rfl (by rfl)) ?_
  refine wl (O.mul rfl rfl rfl (by rfl)) ?_
  refine wl (O.shr rfl rfl rfl (by omega) rfl) ?_
  refine yQ ?_
  refine zb ?_
  refine wl (O.quo rfl rfl rfl (by omega) (by rfl)) ?_
  refine yQ ?_
  refine wl (O.add rfl rfl rfl (by exact d0o)) ?_
  refine zQ ?_
  intro B1
  refine AO.g ?_
  refine z6 0 24 ?_
  refine xz 24 ?_
  refine AO.u ?_
  dsimp only[List.eraseIdx]
  refine AO.append' (i:=0) rfl rfl rfl rfl (by rfl) (by rfl) rfl rfl rfl (by exact SrcA.ro TyD.ax (by rfl) (lB rfl)) (by rfl) (by(unfold maxLen;omega)) (by omega) (by(dsimp only[List.set,List.append,cA,cN,a0w,a0v,a0A,a0c,a0n,AV.cells,List.map,List.map_cons,List.map_nil,List.take,List.drop,Nat.zero_add,Nat.add_zero,Nat.reduceAdd,Nat.reduceMul,Nat.zero_mul,Value.cells,List.toList_toArray,a0o,List.replicate,List.flatten,cP];done)) (fun _=>by(dsimp only[List.set];done)) ?_
  intro V2 hV2
  refine zc (zE (y5 (zm (zr ?_))))
  refine zA ?_
  refine zb (zE ?_)
  refine zn _ _ _ (by omega) (⟨i+1,V2,by omega,hV2,rfl,rfl,congrArg (fun xs=> [HE.row V2 5 1 (i+1) xs]) (l0E (f:=k0K k) (n:=i) rfl)⟩)
 obtain rfl:i=n:=by omega
 refine xx ?_
 refine xp ?_
 refine xu ?_
 refine y2 (zm (zB (zr ?_)))
 refine zb ?_
 refine zc (zE (zm (yR ?_)))
 refine AQ.ret1 rfl rfl ⟨_,by repeat(first|exact List.Sublist.slnil|refine List.Sublist.cons_cons _ ?_),List.Perm.refl _⟩ (⟨V,rfl,hV,rfl⟩)
theorem m0C (k z:Int)(hz:0≤z∧z≤1000000):Sp Tryz.prog 107 [.val (.int .i64 k),.val (.int .i64 z)] [] (Is (roB (j0g k z.toNat))):=by
 have h:=Sp.frozen (k0J k z.toNat (by omega))
 rw[show((z.toNat:Nat):Int)=z by omega]at h
 rw[j0g,f0p]
 exact h
end Go.Proofs.YtojomcdjcpmnkaaGreat.By
namespace Go.Proofs.YtojomcdjcpmnkaaGreat.By
open Go.RowKit L A
def DX (b:UInt8):Prop:= ∀a,dbl (a^^^b)=dbl a^^^dbl b
theorem DX.xor {b c:UInt8}(h:DX b)(k:DX c):DX (b^^^c):=fun a=>by
 rw[←UInt8.xor_assoc,k,h,k,UInt8.xor_assoc]
theorem DX.zero:DX 0:=fun a=>by rw[UInt8.xor_zero,show dbl 0=0 from rfl,UInt8.xor_zero]
theorem c0A {S:UInt8→UInt8}{d:Nat}{f g:Nat→UInt8}(h: ∀q,q<16→f q=g q): ∀q,q<16→shF S d f q=shF S d g q:=fun q hq=>by
 unfold shF
 rw[h _ (by omega)]
theorem e0R {f g m:Nat→UInt8}{i:Nat}(hi:i<16)(h: ∀q,q<16→f q=g q): ∀k,n0p f m i k=n0p g m i k
 |0=>rfl
 |k+1=>by rw[n0p,n0p,e0R hi h k,h _ (by omega)]
theorem e0S {f g m:Nat→UInt8}(h: ∀q,q<16→f q=g q): ∀q,q<16→f0T f m q=f0T g m q:=fun q hq=>e0R hq h 4
theorem e0j (w f:Nat→UInt8)(q:Nat):g0l w f 0 q=f q^^^w (0*16+q):=rfl
theorem e0k (w f:Nat→UInt8)(j q:Nat):g0l w f (j+1) q=(if j+1<10 then f0T (shF sb 1 (g0l w f j)) j0Q else shF sb 1 (g0l w f j)) q^^^w ((j+1)*16+q):=rfl
theorem d0g {w f g:Nat→UInt8}(h: ∀q,q<16→f q=g q): ∀j q,q<16→g0l w f j q=g0l w g j q
 |0,q,hq=>by rw[e0j,e0j,h q hq]
 | j+1,q,hq=>by
  rw[e0k,e0k]
  by_cases h9:j+1<10
  ·rw[if_pos h9,if_pos h9]
   show f0T _ _ q^^^_=f0T _ _ q^^^_
   rw[e0S (c0A (d0g h j)) q hq]
  rw[if_neg h9,if_neg h9]
  show shF _ _ _ q^^^_=shF _ _ _ q^^^_
  rw[c0A (d0g h j) q hq]
theorem k0e {w f g:Nat→UInt8}(h: ∀q,q<16→f q=g q): ∀q,q<16→enc w f q=enc w g q:=d0g h 10
def o0f (WL:List UInt8)(q:Nat):UInt8:=(if q%16<4 then sb (WL.getD (q-q%16-4+(q%16+1)%4) 0)^^^ (if q%16=0 then rcF (q/16-1)else 0)else WL.getD (q-4) 0)^^^WL.getD (q-16) 0
theorem o0g {key:Nat→UInt8}{WL:List UInt8}(h0: ∀q,q<16→key q=WL.getD q 0)(h: ∀q,q<176→16≤q→WL.getD q 0=o0f WL q): ∀q,q<176→wS key q=WL.getD q 0:=fun q=>by
 induction q using Nat.strongRecOn with
 |ind q ih=>
  intro hq
  by_cases h16:q<16
  ·rw[l0M h16,h0 q h16]
  rw[h q hq (by omega),p0S h16,o0f,ih (q-16) (by omega) (by omega)]
  by_cases h4:q%16<4
  ·rw[if_pos h4,if_pos h4,ih (q-q%16-4+(q%16+1)%4) (by omega) (by omega)]
  rw[if_neg h4,if_neg h4,ih (q-4) (by omega) (by omega)]
def l0x (WL:List UInt8)(g:List UInt8)(j q:Nat):UInt8:=(if j+1<10 then f0T (shF sb 1 (kf g)) j0Q else shF sb 1 (kf g)) q^^^WL.getD ((j+1)*16+q) 0
theorem k0c {w f:Nat→UInt8}{WL:List UInt8}{ST:List (List UInt8)}(hw: ∀q,q<176→w q=WL.getD q 0)(h0: ∀q,q<16→f q^^^WL.getD q 0=kf (ST.getD 0 []) q)(h: ∀j,j<10→ ∀q,q<16→l0x WL (ST.getD j []) j q=kf (ST.getD (j+1) []) q):
  ∀j,j≤10→ ∀q,q<16→g0l w f j q=kf (ST.getD j []) q
 |0,_,q,hq=>by rw[e0j,←h0 q hq,hw _ (by omega)];congr 2;omega
 | j+1,hj,q,hq=>by
  have ih:=k0c hw h0 h j (by omega)
  rw[←h j (by omega) q hq,e0k,l0x,hw _ (by omega)]
  by_cases h9:j+1<10
  ·rw[if_pos h9,if_pos h9]
   show f0T _ _ q^^^_=f0T _ _ q^^^_
   rw[e0S (c0A ih) q hq]
  rw[if_neg h9,if_neg h9]
  show shF _ _ _ q^^^_=shF _ _ _ q^^^_
  rw[c0A ih q hq]
attribute [local irreducible] AW AQ AO
def cvB (key nonce:List UInt8)(tag:Int):Bool:=(key.length:Int)==16&&decide (7≤(nonce.length:Int))&&decide ((nonce.length:Int)≤13)&&decide (4≤tag)&&decide (tag≤16)&&tag.tmod 2==0
theorem p0m {key nonce:List UInt8}{tag:Int}(h:cvB key nonce tag=true):key.length=16∧7≤nonce.length∧nonce.length≤13∧4≤tag∧tag≤16∧tag%2=0:=by
 unfold cvB at h
 simp only[Bool.and_eq_true,beq_iff_eq,cQ]at h
 obtain⟨⟨⟨⟨⟨h1,h2⟩,h3⟩,h4⟩,h5⟩,h6⟩:=h
 rw[Int.tmod_eq_emod_of_nonneg (by omega)]at h6
 omega
theorem l0D (key nonce:List UInt8)(tag:Int):Sp Tryz.prog 156 [roB key,roB nonce,.val (.int .i64 tag)] [] (Is (.val (.bool (cvB key nonce tag)))):=by
 refine yr Tryz.func156 _ Tryz.ntmps156 (fun w0 R0=> ?_)
 refine zB (zr ?_)
 refine zc (zE (zm (zB (zr ?_))))
 refine zb ?_
 refine zR ?_
 refine yh ?_
 refine zb ?_
 refine yl ?_
 refine zX 11 ?_
 refine AO.opG rfl rfl rfl (fun hp=>wo 12 rfl (by exact hp) (O.geq rfl rfl rfl (by rfl))) ?_
 refine zO ?_
 refine zb ?_
 refine yl ?_
 refine zX 16 ?_
 refine yW 17 ?_
 refine zO ?_
 refine zb ?_
 refine yl ?_
 refine AO.opG rfl rfl rfl (fun hp=>wo 21 rfl (by exact hp) (O.geq rfl rfl rfl (by rfl))) ?_
 refine zO ?_
 refine zb ?_
 refine yl ?_
 refine yW 25 ?_
 refine zO ?_
 refine zb ?_
 refine yl ?_
 refine AO.opG rfl rfl rfl (fun hp=>wo 29 rfl (by exact hp) (O.rem rfl rfl rfl (by omega) rfl)) ?_
 refine yE 30 ?_
 refine zO ?_
 refine zc (zE (zm (yR ?_)))
 refine yd
def g0y (first:UInt8)(nonce:List UInt8)(n:Int)(q:Nat):UInt8:=if q=0 then first else if q≤nonce.length then kf nonce (q-1)else u8 (n/256^ (15-q))
def b0F (first:UInt8)(nonce:List UInt8)(q:Nat):UInt8:=if q=0 then first else if q≤nonce.length then kf nonce (q-1)else 0
theorem m0p (l:List UInt8):a0a l=arB l.length (kf l):=by
 have h:=m0f (l:=l) rfl
 exact(congrArg a0a h).symm
theorem q0F {first:UInt8}{nonce:List UInt8}(h:nonce.length≤15):a0c (arB 16 fun q=>if q=0 then first else 0) 1 ((a0a nonce).take (min nonce.length 15))=arB 16 (b0F first nonce):=by
 rw[Nat.min_eq_left h,List.take_of_length_le (Nat.le_of_eq (c0M _)),m0p,d0h (by omega)]
 refine a0e fun q hq=> ?_
 unfold b0F
 by_cases h0:q=0
 ·rw[if_neg (by omega),if_pos h0,if_pos h0]
 rw[if_neg h0,if_neg h0]
 by_cases h1:q≤nonce.length
 ·rw[if_pos (by omega),if_pos h1]
 rw[if_neg (by omega),if_neg h1]
def bI (first:UInt8)(nonce:List UInt8)(n:Int)(i q:Nat):UInt8:=if i<q then g0y first nonce n q else b0F first nonce q
theorem k0W (n:Int)(k:Nat):n/256^k/256=n/256^ (k+1):=by
 rw[Int.ediv_ediv_of_nonneg (Int.pow_nonneg (by decide)),Int.pow_succ]
theorem n0K {first:UInt8}{nonce:List UInt8}{n:Int}{i:Nat}(hi:i<15+1)(hl:nonce.length<i)(q:Nat):(if q=i then u8 (n/256^ (15-i))else bI first nonce n i q)=bI first nonce n (i-1) q:=by
 unfold bI
 rcases Nat.lt_trichotomy q i with h|h|h
 ·rw[if_neg (by omega),if_neg (by omega),if_neg (by omega)]
 ·rw[if_pos h,if_pos (by omega),g0y,if_neg (by omega),if_neg (by omega),h]
 rw[if_neg (by omega),if_pos h,if_pos (by omega)]
theorem u8_zero:u8 0=0:=by decide
theorem p0t {first:UInt8}{nonce:List UInt8}{n:Int}{i:Nat}(h:i≤nonce.length∨n/256^ (15-i)≤0)(hn:0≤n)(hi:i≤15)(q:Nat)(hq:q<16):bI first nonce n i q=g0y first nonce n q:=by
 unfold bI
 by_cases h1:i<q
 ·rw[if_pos h1]
 rw[if_neg h1]
 unfold b0F g0y
 by_cases h0:q=0
 ·rw[if_pos h0,if_pos h0]
 rw[if_neg h0,if_neg h0]
 by_cases h2:q≤nonce.length
 ·rw[if_pos h2,if_pos h2]
 rw[if_neg h2,if_neg h2]
 rcases h with h|h
 ·omega
 have hz:n/256^ (15-i)=0:=Int.le_antisymm h (Int.ediv_nonneg hn (Int.pow_nonneg (by decide)))
 have hq0:n/256^ (15-q)=0:=by
  rw[show 15-q=(15-i)+(i-q) by omega,Int.pow_add,←Int.ediv_ediv_of_nonneg (Int.pow_nonneg (by decide)),hz,Int.zero_ediv]
 rw[hq0];exact u8_zero.symm
theorem e0q (first:UInt8)(nonce:List UInt8)(n:Int)(hl:nonce.length≤13)(hn:0≤n∧n≤9223372036854775807):Sp Tryz.prog 180 [by8 first,roB nonce,.val (.int .i64 n)] [] (Is (.agg (arB 16 (g0y first nonce n)))):=by
 have hl:nonce.length≤15:=by omega
 refine yr Tryz.func180 _ Tryz.ntmps180 (fun w0 R0=> ?_)
 refine zB (zr ?_)
 refine zd ?_
 intro B1
 refine zE (zm (zB (zr ?_)))
 refine zb ?_
 refine zT ?_
 refine zd ?_
 intro B2
 refine AO.store (i:=0) rfl rfl rfl rfl rfl rfl (by rfl) (by rfl) (by rfl) (by rfl) (by(dsimp only[List.set,cA,cN,List.take,List.drop];done)) (zE (zm (zB (zr ?_))))
 refine wl (O.sliceArrK (p:=1) rfl rfl rfl rfl (by rfl) (by rfl) ⟨by omega,by omega⟩ (by omega)) ?_
 refine zb ?_
 refine AO.copyIn (i:=0) rfl rfl rfl rfl (by exact c0M _) (by exact i0N _) rfl (by show 0+1*1+min nonce.length (16-1)≤16;omega) (by exact q0F hl) rfl rfl (fun q h=>by cases h;exact lB rfl) ?_
 rintro _ rfl
 dsimp only[List.set]
 refine zE (zm (zB (zB (zr ?_))))
 refine zc (zE (zm (yT ?_)))
 have e0:arB 16 (b0F first nonce)=arB 16 (bI first nonce n 15):=a0e fun q hq=>by unfold bI;rw[if_neg (by omega)]
 rw[e0]
 refine zh [(1,_),(6,_),(7,_)] (fun nn E H=> ∃(i:Nat) (v:Int),(i≤15∧nonce.length≤i)∧(v=n/256^ (15-i))∧i=nn∧E= [(2,.val (.int .i64 v)),(8,.val (.int .i64 (i:Int)))]∧H= [.blk B2 171 16 (arB 16 (bI first nonce n i)),.blk B1 171 16 (arB 16 fun _=>0)]) _ (⟨15,n,by omega,by simp,rfl,rfl,rfl⟩) ?_
 rintro nn E H ⟨i,v,hi,hv,rfl,rfl,rfl⟩
 dsimp only[cA,cN]
 have hv0:0≤v:=by rw[hv];exact Int.ediv_nonneg hn.1 (Int.pow_nonneg (by decide))
 have hv1:v≤n:=by rw[hv];exact Int.ediv_le_self _ hn.1
 refine zB (zB (zr ?_))
 refine zb ?_
 refine zb ?_
 refine zR ?_
 refine yw ?_
 refine zb ?_
 refine yl ?_
 refine yb 19 ?_
 refine zO (zE (zm ?_))
 refine yk (fun h=> ?_) (fun h=> ?_)<;>(try simp only[wr]at h)
 ·obtain⟨j,rfl⟩: ∃j,i=j+1:=⟨i-1,by omega⟩
  refine yI (zm (zB (yT (zB (zr ?_)))))
  refine zb ?_
  refine zb ?_
  refine yQ ?_
  refine xo ?_
  refine yA 0 rfl rfl rfl rfl rfl rfl (by rfl) (by rfl) (by exact Nat.ble_eq_true_of_le (by rw[a0b];omega)) (by exact a0I (k:=j+1) (by omega) _ (by omega)) (zE (zm (zr ?_)))
  refine zb ?_
  refine wl (O.shrK 8 256 rfl rfl rfl rfl (by rfl)) ?_
  refine zc (zE (y5 (zm (zr ?_))))
  refine zb ?_
  refine yN ?_
  refine zc (zE ?_)
  have e1:arB 16 (fun q=>if q=j+1 then u8 v else bI first nonce n (j+1) q)=arB 16 (bI first nonce n j):=a0e fun q _=>by
   rw[hv];exact n0K (by omega) (by omega) q
  rw[e1,show((j+1:Nat):Int)-1=(j:Int) by omega]
  have hv2:v/256=n/256^ (15-j):=by rw[hv,k0W];congr 2;omega
  refine zn _ _ _ (by omega) (⟨j,v/256,by omega,hv2,rfl,rfl,rfl⟩)
 have e2:arB 16 (bI first nonce n i)=arB 16 (g0y first nonce n):=a0e fun q hq=>p0t (by rw[←hv];omega) hn.1 hi.1 q hq
 rw[e2]
 refine xx ?_
 refine xp ?_
 refine xu ?_
 refine y2 (zm (zB (zr ?_)))
 refine xw ?_
 refine y4 1 (zE (zm (yR ?_)))
 refine AQ.retCell (ys:=arB 16 (g0y first nonce n)) rfl rfl mM (List.take_of_length_le (Nat.le_of_eq (a0b _ _))) (a0b _ _) nS ⟨rfl,rfl⟩
def absorb (w:Nat→UInt8)(x:Nat→UInt8)(l:List UInt8):Nat→UInt8:=
 if h:l= []then x else absorb w (enc w fun q=>x q^^^kf l q) (l.drop 16)
termination_by l.length
decreasing_by
 have:0<l.length:=List.length_pos_iff.2 h
 simp;omega
theorem a0U (w x:Nat→UInt8):absorb w x []=x:=by rw[absorb,dif_pos rfl]
theorem b0K {w x:Nat→UInt8}{l:List UInt8}(h:l≠ []):absorb w x l=absorb w (enc w fun q=>x q^^^kf l q) (l.drop 16):=by rw[absorb,dif_neg h]
theorem n0v (l:List UInt8){q:Nat}(h:l.length≤q):kf l q=0:=by simp[kf,h]
theorem e0m (w:Nat→UInt8)(b:Nat)(x:Nat→UInt8)(l:List UInt8)(hl:l.length≤1000000):Sp Tryz.prog 198 [roB l,pt b,.rp [.rp (e0F w) 0] 0] [.blk b 171 16 (arB 16 x)] (IsM (.agg (arB 16 (absorb w x l))) (.blk b 171 16 (arB 16 (absorb w x l)))):=by
 refine yr Tryz.func198 _ Tryz.ntmps198 (fun w0 R0=> ?_)
 refine zB (zr ?_)
 refine zd ?_
 intro B1
 refine zE (zm (zB (yT ?_)))
 refine zh [(1,_),(2,_),(4,_)] (fun nn E H=> ∃(l':List UInt8) (x':Nat→UInt8),(absorb w x' l'=absorb w x l)∧(l'.length≤1000000)∧nn=l'.length∧E= [(0,roB l')]∧H= [.blk B1 171 16 (arB 16 fun _=>0),.blk b 171 16 (arB 16 x')]) _ (⟨l,x,rfl,hl,rfl,rfl,rfl⟩) ?_
 rintro nn E H ⟨l',x',hx,hl',rfl,rfl,rfl⟩
 dsimp only[cA,cN]
 refine zB (zB (zr ?_))
 refine zb ?_
 refine zR ?_
 refine yw (zE (zm ?_))
 refine yk (fun h=> ?_) (fun h=> ?_)<;>(try simp only[wr]at h)
 ·obtain⟨n,hn⟩: ∃n:Nat,n=min l'.length 16:=⟨_,rfl⟩
  have hmin:(if(16:Int)<(l'.length:Int)then(16:Int)else(l'.length:Int))=(n:Int):=by split<;>omega
  have hln:(l'.take n).length=n:=by rw[List.length_take];omega
  have hne:l'≠ []:=fun e=>by rw[e]at h;simp at h
  have hdr:l'.drop n=l'.drop 16:=by
   rcases Nat.lt_or_ge 16 l'.length with h1|h1
   ·rw[show n=16 by omega]
   rw[List.drop_eq_nil_of_le (by omega),List.drop_eq_nil_of_le (by omega)]
  refine yI (zm (zB (yT (zB (zB (zr ?_))))))
  refine zb ?_
  refine zb ?_
  refine zR ?_
  refine wl (O.minI rfl rfl rfl hmin) ?_
  refine wl (O.sliceToB (k:=n) rfl rfl rfl (by rfl) (by omega)) ?_
  refine zR ?_
  refine zb (zE (zm (yT ?_)))
  have e0:arB 16 x'=arB 16 (fun q=>if q<0 then x' q^^^kf l' q else x' q):=a0e fun q _=>(if_neg (by omega)).symm
  rw[e0]
  refine zh [(0,_),(1,_),(2,_),(4,_),(19,_),(20,_)] (fun nn E H=> ∃(i:Nat),(i≤n)∧nn=n-i∧E= [(21,.val (.int .i64 (i:Int)))]∧H= [.blk B1 171 16 (arB 16 fun _=>0),.blk b 171 16 (arB 16 fun q=>if q<i then x' q^^^kf l' q else x' q)]) _ (⟨0,by omega,rfl,rfl,rfl⟩) ?_
  rintro nn E H ⟨i,hi,rfl,rfl,rfl⟩
  dsimp only[cA,cN]
  refine zB (zr ?_)
  refine zN (zE (zm (zB ?_)))
  refine yk (fun h2=> ?_) (fun h2=> ?_)<;>(try simp only[wr]at h2)
  ·have hi':i<n:=by omega
   have hget:(a0a (l'.take n))[Int.toNat (i:Int)*1]? =some (by8 (kf l' i)):=by
    rw[c0N (k:=i) (by omega) (by omega)]
    have:bt (l'.take n) i=kf l' i:=by
     have h3:i<l'.length:=by omega
     simp[bt,kf,List.getElem?_take,hi',h3]
    rw[this]
   refine yI (zm (zB (yT (zB (zr ?_)))))
   refine zb ?_
   refine z8 ?_
   refine wl (O.loadR rfl rfl (by exact hget)) ?_
   refine zc ?_
   refine zc (zE (zm (zr ?_)))
   refine zb ?_
   refine xo ?_
   refine wl (O.load rfl rfl mM (by exact a0u (k:=i) (by omega) (by omega))) ?_
   refine zb ?_
   refine wl (O.xor_ rfl rfl rfl c0l) ?_
   refine xo ?_
   refine yA 1 rfl rfl rfl rfl rfl rfl (by rfl) (by rfl) (by exact Nat.ble_eq_true_of_le (by rw[a0b];omega)) (by exact a0I (k:=i) (by omega) _ (by omega)) (zE (y5 (zm (zr ?_))))
   refine zA ?_
   refine zb (zE ?_)
   have e1:arB 16 (fun q=>if q=i then(if i<i then x' i^^^kf l' i else x' i)^^^kf l' i else if q<i then x' q^^^kf l' q else x' q)=arB 16 (fun q=>if q<i+1 then x' q^^^kf l' q else x' q):=a0e fun q _=>by
    rcases Nat.lt_trichotomy q i with h1|h1|h1
    ·rw[if_neg (by omega),if_pos h1,if_pos (by omega)]
    ·rw[if_pos h1,if_neg (by omega),if_pos (by omega),h1]
    rw[if_neg (by omega),if_neg (by omega),if_neg (by omega)]
   rw[e1]
   refine zn _ _ _ (by omega) (⟨i+1,by omega,rfl,rfl,rfl⟩)
  obtain rfl:i=n:=by omega
  have e2:arB 16 (fun q=>if q<i then x' q^^^kf l' q else x' q)=arB 16 (fun q=>x' q^^^kf l' q):=a0e fun q hq=>by
   by_cases h3:q<i
   ·rw[if_pos h3]
   rw[if_neg h3,n0v l' (by omega),p0H]
  rw[e2]
  refine xx ?_
  refine xp ?_
  refine xu ?_
  refine y2 (zm (zr ?_))
  refine wl (O.loadR rfl rfl (by rfl)) ?_
  refine xO ?_
  refine wl (xl rfl Tryz.func179 rfl rfl rfl (f0N w _)) ?_
  refine y4 1 (zE (y5 (zm (zr ?_))))
  refine zb ?_
  refine zb ?_
  refine zR ?_
  refine wl (O.minI rfl rfl rfl hmin) ?_
  refine wl (O.sliceFromB (k:=i) rfl rfl rfl (by rfl) (by omega)) ?_
  refine zc (zE ?_)
  rw[hdr]
  refine zn _ _ _ (by rw[List.length_drop];omega) (⟨l'.drop 16,enc w fun q=>x' q^^^kf l' q,by rw[←b0K hne];exact hx,by rw[List.length_drop];omega,rfl,rfl,rfl⟩)
 obtain rfl:l'= []:=List.eq_nil_of_length_eq_zero (by omega)
 rw[a0U]at hx
 subst hx
 refine xx ?_
 refine xp ?_
 refine xu ?_
 refine y2 (zm (zB (zr ?_)))
 refine xO ?_
 refine y4 0 (zE (zm (yR ?_)))
 refine AQ.retCell (ys:=arB 16 (absorb w x l)) rfl rfl (by repeat(exact List.Mem.head _)) (List.take_of_length_le (Nat.le_of_eq (a0b _ _))) (a0b _ _) ⟨_,List.Sublist.cons _ (List.Sublist.cons_cons _ List.Sublist.slnil),.refl _⟩ ⟨rfl,rfl⟩
abbrev p0W (w:Nat→UInt8)(b:Nat):AV:= .fn (.func 198) [pt b,.rp [.rp (e0F w) 0] 0]
abbrev xB (b:Nat)(x:Nat→UInt8):HE:= .blk b 171 16 (arB 16 x)
theorem l0C (w:Nat→UInt8):Sp Tryz.prog 181 [.rp (e0F w) 0] [] (fun v Hn=> ∃b,v=p0W w b∧Hn= [xB b fun _=>0]):=by
 refine yr Tryz.func181 _ Tryz.ntmps181 (fun w0 R0=> ?_)
 refine zB (zr ?_)
 refine ya ?_
 intro B1
 refine zc (zE (zm (zB (zr ?_))))
 refine zd ?_
 intro B2
 refine zE (zm (zB (zr ?_)))
 refine AO.g ?_
 refine G.freezePtr 1 1 rfl rfl ?_
 refine AO.u ?_
 dsimp only[List.eraseIdx]
 refine wl (O.fn rfl rfl) ?_
 refine zc (zE (zm (yR ?_)))
 refine AQ.ret1 rfl rfl ⟨_,by repeat(first|exact List.Sublist.slnil|refine List.Sublist.cons_cons _ ?_),List.Perm.refl _⟩ (⟨B2,rfl,rfl⟩)
def k0C (aad nonce:List UInt8)(tag:Int):UInt8:=u8 (8*(tag/2-1)+14-(nonce.length:Int)+(if aad= []then 0 else 64))
def e0c (aad:List UInt8):List UInt8:=u8 ((aad.length:Int)/256)::u8 (aad.length:Int)::aad
def l0k (w:Nat→UInt8)(nonce aad plain:List UInt8)(tag:Int):Nat→UInt8:=
 absorb w (if aad= []then absorb w (fun _=>0) (fnB 16 (g0y (k0C aad nonce tag) nonce plain.length))else absorb w (absorb w (fun _=>0) (fnB 16 (g0y (k0C aad nonce tag) nonce plain.length))) (e0c aad)) plain
theorem m0o (f:Nat→UInt8):((arB 16 f).drop (0+0*1)).take ((16-0)*1)=arB 16 f:=by
 show((arB 16 f).drop 0).take 16=_
 rw[cO,List.take_of_length_le (Nat.le_of_eq (a0b _ _))]
theorem n0L (w:Nat→UInt8)(nonce aad plain:List UInt8)(tag:Int)(hn13:nonce.length≤13)(ht:4≤tag∧tag≤16)(ha:aad.length≤10000)(hp:plain.length≤10000):Sp Tryz.prog 159 [.rp (e0F w) 0,roB nonce,roB aad,roB plain,.val (.int .i64 tag)] [] (Is (.agg (arB 16 (l0k w nonce aad plain tag)))):=by
 refine yr Tryz.func159 _ Tryz.ntmps159 (fun w0 R0=> ?_)
 refine zB (zr ?_)
 refine zd ?_
 intro B1
 refine zE (zm (zB (zr ?_)))
 refine zb ?_
 refine AO.opN (xl rfl Tryz.func181 rfl rfl rfl (l0C w)) rfl rfl rfl ?_
 rintro _ _ ⟨B2,rfl,rfl⟩
 simp only[cA,cN]
 refine zc (zE (zm (zB (zr ?_))))
 refine zb ?_
 refine xX ?_
 refine yN ?_
 refine wl xq ?_
 refine zA ?_
 refine zb ?_
 refine zR ?_
 refine yN ?_
 refine yQ ?_
 refine zc (zE (zm (zB (zB (zr ?_)))))
 refine zb ?_
 refine zR ?_
 refine yw (zE (zm ?_))
 obtain⟨z,hz⟩: ∃z,z=8*(tag/2-1)+14-(nonce.length:Int):=⟨_,rfl⟩
 have hzb:0≤z∧z≤127∧z+64≤255:=by omega
 rw[←hz]
 refine xh True [(1,_),(2,_),(3,_),(10,_),(11,_)] [(12,by8 (k0C aad nonce tag))] [xB B2 (fun _=>0),xB B1 (fun _=>0)] (fun h27=> ?_) (fun h27=> ?_) (fun hj=> ?_)<;>try(try simp only[wr]at h27)
 ·have e:u8 (((u8 z).toNat:Int)+64)=k0C aad nonce tag:=by
   have hne:aad≠ []:=fun e=>by rw[e]at h27;simp at h27
   rw[k0C,if_neg hne,←hz,c0c]
   congr 1;omega
  refine zr ?_
  refine zb ?_
  refine wl (O.add rfl rfl rfl (by exact d0o)) ?_
  refine zc (zE ?_)
  rw[e]
  refine zV
 ·have e:u8 z=k0C aad nonce tag:=by
   have hne:aad= []:=List.eq_nil_of_length_eq_zero (by omega)
   rw[k0C,if_pos hne,←hz,Int.add_zero]
  refine yI ?_
  rw[e]
  refine zV
 dsimp only[cA,cN]
 refine zm ?_
 obtain⟨x1,hx1⟩: ∃x1,x1=absorb w (fun _=>0) (fnB 16 (g0y (k0C aad nonce tag) nonce plain.length)):=⟨_,rfl⟩
 have hc1:=e0m w B2 (fun _=>0) (fnB 16 (g0y (k0C aad nonce tag) nonce plain.length)) (by rw[d0b];omega)
 rw[←hx1]at hc1
 have hc2:=e0m w B2 x1 (e0c aad) (by simp only[e0c,cL];omega)
 obtain⟨x2,hx2⟩: ∃x2,x2=if aad= []then x1 else absorb w x1 (e0c aad):=⟨_,rfl⟩
 have hc3:=e0m w B2 x2 plain (by omega)
 refine zB (zr ?_)
 refine zb ?_
 refine zb ?_
 refine zb ?_
 refine zR ?_
 refine wl (xl rfl Tryz.func180 rfl rfl rfl (e0q _ nonce _ hn13 ⟨by omega,by omega⟩)) ?_
 refine zd ?_
 intro B3
 refine y6 0 ?_
 refine AO.g ?_
 refine G.freezePtr 0 13 rfl rfl ?_
 refine AO.u ?_
 dsimp only[List.eraseIdx]
 refine zE (zm (zB (zr ?_)))
 refine zb ?_
 refine wl (O.sliceArrRK (p:=0) rfl rfl rfl rfl (by rfl) (by rfl) ⟨by omega,by omega⟩ (by omega) (by(unfold maxLen;omega)) (by exact m0o _)) ?_
 refine AO.callMV1 (i:=0) rfl rfl rfl Tryz.func198 rfl rfl rfl rfl rfl rfl hc1 (by(dsimp only[List.set,cA,cN,List.take,List.drop];done)) (zE (zm (zB (zB (zr ?_)))))
 refine zb ?_
 refine zR ?_
 refine yw (zE (zm ?_))
 refine xh True [(3,_),(10,_),(11,_)] [] [xB B2 x2,xB B1 (fun _=>0)] (fun h40=> ?_) (fun h40=> ?_) (fun hj=> ?_)<;>try(try simp only[wr]at h40)
 ·have hne:aad≠ []:=fun e=>by rw[e]at h40;simp at h40
  have e2:absorb w x1 (e0c aad)=x2:=by rw[hx2,if_neg hne]
  have er:roB (e0c aad)=AV.ro false (2+aad.length) (AV.val (.int .u8 ((u8 ((aad.length:Int)/256)).toNat:Int))::AV.val (.int .u8 ((u8 (aad.length:Int)).toNat:Int))::a0a aad):=(b0M (by simp only[e0c,cL];omega) rfl).symm
  rw[e2,er]at hc2
  refine zr ?_
  refine zb ?_
  refine zb ?_
  refine zR ?_
  refine wl (O.shrK 8 256 rfl rfl rfl rfl (by rfl)) ?_
  refine yQ ?_
  refine zb ?_
  refine zR ?_
  refine yQ ?_
  refine yF ?_
  intro B4
  refine AO.g ?_
  refine G.closeRow (b:=B4) (n:=2) (cap:=2) 0 rfl rfl rfl (Nat.le_refl _) (by(unfold maxLen;omega)) ?_
  refine AO.u ?_
  dsimp only[List.set]
  refine zb ?_
  refine zC 0 ?_
  intro V5 hV5
  refine AO.g ?_
  refine yG 0 [51] ?_
  refine AO.u ?_
  dsimp only[List.map,List.eraseIdx,cA,cN]
  refine AO.callMV1 (i:=0) rfl rfl rfl Tryz.func198 rfl rfl rfl rfl rfl rfl hc2 (by(dsimp only[List.set,cA,cN,List.take,List.drop];done)) (zE ?_)
  refine AQ.midK0 trivial (by repeat(first|exact a0f|refine a0h rfl ?_)) (by repeat(first|exact a0p|refine a0m 0 rfl ?_))
 ·have hne:aad= []:=List.eq_nil_of_length_eq_zero (by omega)
  have e2:x1=x2:=by rw[hx2,if_pos hne]
  refine yI ?_
  rw[e2]
  refine AQ.midK trivial (by repeat(first|exact a0f|refine a0h rfl ?_)) (by repeat(exact a0f)) (by repeat(first|exact a0p|refine a0m 0 rfl ?_))
 dsimp only[cA,cN]
 refine zm ?_
 have hm:l0k w nonce aad plain tag=absorb w x2 plain:=by rw[l0k,hx2,hx1]
 refine zB (zr ?_)
 refine zb ?_
 refine zb ?_
 refine AO.callMV1 (i:=0) rfl rfl rfl Tryz.func198 rfl rfl rfl rfl rfl rfl hc3 (by(dsimp only[List.set,cA,cN,List.take,List.drop];done)) ?_
 refine y4 1 (zE (zm (yR ?_)))
 refine AQ.retCell (ys:=arB 16 (absorb w x2 plain)) rfl rfl mM (List.take_of_length_le (Nat.le_of_eq (a0b _ _))) (a0b _ _) nS ⟨by rw[hm],rfl⟩
end Go.Proofs.YtojomcdjcpmnkaaGreat.By
namespace Go.Proofs.YtojomcdjcpmnkaaGreat.A
open Go.RowKit L
section
variable {Γ:Cx}{P:Program}{E:Env}{H:List HE}
theorem AQ.ret2G {fn:Func}{Post:AV→List HE→Prop}{x y:ResultVar}{p q:AV}{H':List HE}(hr:fn.results= #[x,y])(h1:ResAt Γ P E H x p)(h2:ResAt Γ P E H y q)
  (hH: ∃H1,H1.Sublist H∧H'.Perm H1) (hp:Post (.tup [p,q]) H'):AQ Γ (FnQ Γ P fn Post) .ret E H:=fun R a W hs ha=>by
 obtain⟨H1,k1,k2⟩:=hH
 obtain⟨u1,e1,g1⟩:=h1 R a W hs ha
 obtain⟨u2,e2,g2⟩:=h2 R a W hs ha
 refine⟨ha.defers,.tuple #[u1,u2],?_,_,_,H',R,rfl,hp,?_,RelL.toTup (us:= [u1,u2]) (RelL.cons g1 (RelL.cons g2 RelL.nil))⟩
 ·rw[e0N,hr]
  simp[e1,e2]
 have:=(hs.sub k1).perm k2
 exact⟨this.mods,this.rlt,this.rsub,this.rnew,this.ok,this.own,this.disj⟩
end
end Go.Proofs.YtojomcdjcpmnkaaGreat.A
namespace Go.Proofs.YtojomcdjcpmnkaaGreat.By
open Go.RowKit L A
set_option linter.unusedVariables false
set_option maxRecDepth 20000
set_option linter.unusedSimpArgs false
attribute [local irreducible] AW AQ AO
theorem k0k (l:List UInt8)(hl:l.length≤1000000):Sp Tryz.prog 138 [roB l] [] (b0q 5 1 l.length (arB l.length (kf l))):=by
 refine yr Tryz.func138 _ Tryz.ntmps138 (fun w0 R0=> ?_)
 refine zB (zr ?_)
 refine zc (zE (zm (zB (zB (zr ?_)))))
 refine zb ?_
 refine AO.opN (O.eqlNil rfl rfl rfl) rfl rfl rfl ?_
 rintro _ _ ⟨c1,rfl,rfl,hnil1⟩
 simp only[cA,cN]
 refine zE (zm ?_)
 refine yk (fun h=> ?_) (fun h=> ?_)
 ·obtain rfl:l= []:=List.eq_nil_of_length_eq_zero (by exact hnil1 (by simp[h]))
  refine zB (zr ?_)
  refine zc (zE (zm (yR (y0 ?_))))
  refine AQ.g ?_
  refine G.nilRow 5 1 ?_
  refine AQ.u ?_
  refine AQ.ret1 rfl rfl ⟨_,by repeat(first|exact List.Sublist.slnil|refine List.Sublist.cons_cons _ ?_),List.Perm.refl _⟩ (⟨_,rfl,rfl,rfl⟩)
 refine yI (zm (zB (zr ?_)))
 refine AO.opRow (O.buildSlice0 rfl) rfl rfl rfl ?_
 intro V2 hV2
 refine zb ?_
 refine zC 0 ?_
 intro V3 hV3
 refine zc (zE (zm (yR ?_)))
 rw[Nat.zero_add,m0p]
 refine AQ.ret1 rfl rfl ⟨_,by repeat(first|exact List.Sublist.slnil|refine List.Sublist.cons_cons _ ?_),List.Perm.refl _⟩ (⟨V3,rfl,hV3,rfl⟩)
def j0d (w:Nat→UInt8)(nonce text:List UInt8)(i:Nat):UInt8:=kf text i^^^enc w (g0y (u8 (14-(nonce.length:Int))) nonce (((i/16:Nat):Int)+1)) (i%16)
def i0R (w:Nat→UInt8)(nonce text:List UInt8)(k i:Nat):UInt8:=if i<k then j0d w nonce text i else kf text i
def g0F (w:Nat→UInt8)(nonce:List UInt8)(tg:Nat→UInt8)(q:Nat):UInt8:=tg q^^^enc w (g0y (u8 (14-(nonce.length:Int))) nonce 0) q
theorem j0c (w:Nat→UInt8)(nonce text:List UInt8)(i:Nat):i0R w nonce text 0 i=kf text i:=if_neg (by omega)
set_option maxHeartbeats 8000000 in
theorem j0b (w:Nat→UInt8)(nonce text:List UInt8)(tg:Nat→UInt8)(hn13:nonce.length≤13)(hp:text.length≤1000000):Sp Tryz.prog 158 [.rp (e0F w) 0,roB nonce,roB text,.agg (arB 16 tg)] []
  (fun r Hn=> ∃V:Value,V.oneCell'=true∧r= .tup [.val V,.agg (arB 16 (g0F w nonce tg))]∧Hn= [.row V 5 1 text.length (arB text.length (j0d w nonce text))]):=by
 refine yr Tryz.func158 _ Tryz.ntmps158 (fun w0 R0=> ?_)
 refine zB (zr ?_)
 refine ya ?_
 intro B1
 refine zc ?_
 refine zd ?_
 intro B2
 refine zE (zm (zB (zr ?_)))
 refine zb ?_
 refine AO.opRow (xl rfl Tryz.func138 rfl rfl rfl (k0k _ hp)) rfl rfl rfl ?_
 intro V3 hV3
 refine zc (zE (zm (zB (zr ?_))))
 refine zb ?_
 refine zR ?_
 refine yN ?_
 refine yQ ?_
 refine zc (zE (zm (zB (zB (zr ?_)))))
 refine zc (zE (zm (yT ?_)))
 obtain⟨n,hn⟩: ∃n,n=text.length:=⟨_,rfl⟩
 rw[←hn]
 have e0:arB n (kf text)=arB n (i0R w nonce text 0):=a0e fun q _=>(j0c w nonce text q).symm
 rw[e0]
 refine zh [(0,_),(1,_),(7,_),(9,_),(11,_)] (fun nn E H=> ∃(j:Nat) (V:Value),(16*j<n+16)∧(V.oneCell'=true)∧nn=n+16-16*j∧E= [(10,.val V),(12,.val (.int .i64 ((16*j:Nat):Int)))]∧H= [.row V 5 1 n (arB n (i0R w nonce text (16*j))),.blk B2 171 16 (arB 16 fun _=>0),.blk B1 171 16 (arB 16 tg)]) _ (⟨0,V3,by omega,hV3,rfl,rfl,rfl⟩) ?_
 rintro nn E H ⟨j,V,hj,hV,rfl,rfl,rfl⟩
 dsimp only[cA,cN]
 refine zB (zB (zr ?_))
 refine zb ?_
 refine zb ?_
 refine xG ?_
 refine zN (zE (zm ?_))
 refine yk (fun h=> ?_) (fun h=> ?_)<;>(try simp only[wr]at h)
 ·have hj':16*j<n:=by omega
  obtain⟨m,hm⟩: ∃m:Nat,m=min n (16*j+16):=⟨_,rfl⟩
  have hmin:(if((16*j:Nat):Int)+16<(n:Int)then((16*j:Nat):Int)+16 else(n:Int))=(m:Int):=by split<;>omega
  have hq:((16*j:Nat):Int)/16+1=(j:Int)+1:=by omega
  refine AW.g ?_
  refine G.openRow 0 rfl (by omega) (fun b' cap hc1 hc2 hxs hVe=> ?_)
  refine AW.u ?_
  subst hVe
  dsimp only[List.set]
  refine yI (zm (zB (yT (zB (zr ?_)))))
  refine zb ?_
  refine zb ?_
  refine zb ?_
  refine zb ?_
  refine xX ?_
  refine zA ?_
  refine wl (xl rfl Tryz.func180 rfl rfl rfl (e0q _ nonce _ hn13 ⟨by omega,by omega⟩)) ?_
  refine wl (xl rfl Tryz.func179 rfl rfl rfl (f0N w _)) ?_
  refine zd ?_
  intro B4
  refine y6 0 (zE (zm (zB (zr ?_))))
  refine zb ?_
  refine zc (zE (zm (yT ?_)))
  rw[hq]
  obtain⟨z,hz⟩: ∃z,z=enc w (g0y (u8 (14-(nonce.length:Int))) nonce ((j:Int)+1)):=⟨_,rfl⟩
  rw[←hz]
  refine zh [(0,_),(1,_),(7,_),(9,_),(10,_),(11,_),(12,_),(13,_)] (fun nn E H=> ∃(k:Nat),(16*j≤k∧k≤m)∧nn=m-k∧E= [(14,.val (.int .i64 (k:Int)))]∧H= [.blk B4 171 16 (arB 16 z),.blk b' 5 (cap*1) (arB n (i0R w nonce text k)),.blk B2 171 16 (arB 16 fun _=>0),.blk B1 171 16 (arB 16 tg)]) _ (⟨16*j,by omega,rfl,rfl,rfl⟩) ?_
  rintro nn E H ⟨k,hk,rfl,rfl,rfl⟩
  dsimp only[cA,cN]
  refine zB (zB (zr ?_))
  refine zb ?_
  refine zb ?_
  refine wl (O.lenV rfl rfl) ?_
  refine zb ?_
  refine zA ?_
  refine wl (O.minI rfl rfl rfl hmin) ?_
  refine zN (zE (zm ?_))
  refine yk (fun h2=> ?_) (fun h2=> ?_)<;>(try simp only[wr]at h2)
  ·have hk':k<m:=by omega
   refine yI (zm (zB (yT ?_)))
   refine yv 11 ?_
   simp only[cT,cZ,cD,cO]
   refine zG ?_
   refine zG ?_
   refine x8 ?_
   refine wm (O.load rfl rfl mM (by exact a0u (k:=k) (by omega) (by omega))) ?_
   refine zG ?_
   refine zG ?_
   refine xy ?_
   refine yo ?_
   refine wm (O.load rfl rfl (by repeat(exact List.Mem.head _)) (by exact a0u (k:=k-16*j) (by omega) (by omega))) ?_
   refine wm (O.xor_ rfl rfl rfl c0l) ?_
   refine x8 ?_
   refine wh ?_
   simp only[a0l,cN,cA,cP]
   refine yA 1 rfl rfl rfl rfl rfl rfl (by rfl) (by rfl) (by exact Nat.ble_eq_true_of_le (by rw[a0b];omega)) (by exact a0I (k:=k) (by omega) _ (by omega)) (zE (y5 (zm (zr ?_))))
   refine zb ?_
   refine zA ?_
   refine zc (zE ?_)
   have e1:arB n (fun q=>if q=k then i0R w nonce text k k^^^z (k-16*j)else i0R w nonce text k q)=arB n (i0R w nonce text (k+1)):=a0e fun q _=>by
    unfold i0R
    rcases Nat.lt_trichotomy q k with h1|h1|h1
    ·rw[if_neg (by omega),if_pos h1,if_pos (by omega)]
    ·rw[if_pos h1,if_neg (by omega),if_pos (by omega),h1,j0d,hz,show k/16=j by omega,show k%16=k-16*j by omega]
    rw[if_neg (by omega),if_neg (by omega),if_neg (by omega)]
   rw[e1]
   refine zn _ _ _ (by omega) (⟨k+1,by omega,rfl,rfl,rfl⟩)
  obtain rfl:k=m:=by omega
  refine xx ?_
  refine xp ?_
  refine xu ?_
  refine y2 (y5 (zm (zr ?_)))
  refine zb ?_
  refine zA ?_
  refine zc (zE ?_)
  have e1:arB n (i0R w nonce text k)=arB n (i0R w nonce text (16*(j+1))):=a0e fun q hq=>by
   unfold i0R
   by_cases h1:q<k
   ·rw[if_pos h1,if_pos (by omega)]
   rw[if_neg h1,if_neg (by omega)]
  rw[e1]
  refine AQ.g ?_
  refine G.closeRow (b:=b') 1 rfl (by rw[a0b,Nat.mul_one]) rfl hc1 hc2 ?_
  refine AQ.u ?_
  dsimp only[List.set]
  have e2:((16*j:Nat):Int)+16=((16*(j+1):Nat):Int):=by omega
  rw[e2]
  refine zH _ _ _ (by omega) (⟨j+1,_,by omega,hV,rfl,rfl,rfl⟩)
 have e1:arB n (i0R w nonce text (16*j))=arB n (j0d w nonce text):=a0e fun q hq=>if_pos (by omega)
 rw[e1]
 refine xx ?_
 refine xp ?_
 refine xu ?_
 refine y2 (zm (zB (zr ?_)))
 refine zb ?_
 refine zb ?_
 refine zb ?_
 refine wl (xl rfl Tryz.func180 rfl rfl rfl (e0q _ nonce _ hn13 ⟨by omega,by omega⟩)) ?_
 refine wl (xl rfl Tryz.func179 rfl rfl rfl (f0N w _)) ?_
 refine zd ?_
 intro B5
 refine y6 0 (zE (zm (zB (zB (zr ?_)))))
 refine zb (zE (zm (yT ?_)))
 have e2:arB 16 tg=arB 16 (fun q=>if q<0 then g0F w nonce tg q else tg q):=a0e fun q _=>(if_neg (by omega)).symm
 rw[e2]
 obtain⟨z,hz⟩: ∃z,z=enc w (g0y (u8 (14-(nonce.length:Int))) nonce 0):=⟨_,rfl⟩
 rw[←hz]
 refine zh [(7,_),(9,_),(10,_),(15,_)] (fun nn E H=> ∃(i:Nat),(i≤16)∧nn=16-i∧E= [(63,.val (.int .i64 (i:Int)))]∧H= [.blk B5 171 16 (arB 16 z),.row V 5 1 n (arB n (j0d w nonce text)),.blk B2 171 16 (arB 16 fun _=>0),.blk B1 171 16 (arB 16 (fun q=>if q<i then g0F w nonce tg q else tg q))]) _ (⟨0,by omega,rfl,rfl,rfl⟩) ?_
 rintro nn E H ⟨i,hi,rfl,rfl,rfl⟩
 dsimp only[cA,cN]
 refine zB (zr ?_)
 refine zN (zE (zm (zB ?_)))
 refine yk (fun h3=> ?_) (fun h3=> ?_)<;>(try simp only[wr]at h3)
 ·have hi':i<16:=by omega
  refine yI (zm (zB (yT (zB (zr ?_)))))
  refine zb ?_
  refine zc (zE (zm ?_))
  refine yv 8 ?_
  simp only[cT,cZ,cD,cO]
  refine zG ?_
  refine yo ?_
  refine wm (O.load rfl rfl mM (by exact a0u (k:=i) (by omega) (by omega))) ?_
  refine zG ?_
  refine yo ?_
  refine wm (O.load rfl rfl (by repeat(exact List.Mem.head _)) (by exact a0u (k:=i) (by omega) (by omega))) ?_
  refine wm (O.xor_ rfl rfl rfl c0l) ?_
  refine yo ?_
  refine wh ?_
  simp only[a0l,cN,cA,cP]
  refine yA 3 rfl rfl rfl rfl rfl rfl (by rfl) (by rfl) (by exact Nat.ble_eq_true_of_le (by rw[a0b];omega)) (by exact a0I (k:=i) (by omega) _ (by omega)) (zE (y5 (zm (zr ?_))))
  refine zA ?_
  refine zb (zE ?_)
  have e3:arB 16 (fun q=>if q=i then(if i<i then g0F w nonce tg i else tg i)^^^z i else if q<i then g0F w nonce tg q else tg q)=arB 16 (fun q=>if q<i+1 then g0F w nonce tg q else tg q):=a0e fun q _=>by
   rcases Nat.lt_trichotomy q i with h1|h1|h1
   ·rw[if_neg (by omega),if_pos h1,if_pos (by omega)]
   ·rw[if_pos h1,if_neg (by omega),if_pos (by omega),h1,g0F,hz]
   rw[if_neg (by omega),if_neg (by omega),if_neg (by omega)]
  rw[e3]
  refine zn _ _ _ (by omega) (⟨i+1,by omega,rfl,rfl,rfl⟩)
 obtain rfl:i=16:=by omega
 have e3:arB 16 (fun q=>if q<16 then g0F w nonce tg q else tg q)=arB 16 (g0F w nonce tg):=a0e fun q hq=>if_pos hq
 rw[e3]
 refine xx ?_
 refine xp ?_
 refine xu ?_
 refine y2 (zm (zB ?_))
 refine yv 3 ?_
 simp only[cT,cZ,cD,cO]
 refine zG ?_
 refine wm (O.loadK rfl rfl mM (by exact m0o _) (by exact a0b _ _)) ?_
 refine we ?_
 refine wh ?_
 simp only[a0l,cN,cA,cP]
 refine AO.store (i:=2) rfl rfl rfl rfl rfl rfl (by exact c0w _ _) (by exact a0b _ _) (by exact Nat.ble_eq_true_of_le (Nat.le_of_eq (a0b _ _).symm)) (by exact b0l rfl) (by(dsimp only[List.set,cA,cN,List.take,List.drop];done)) (zE (zm (yR ?_)))
 rw[hn]
 refine AQ.ret2G rfl (ResAt.tmp rfl) (ResAt.cell (ys:=arB 16 (g0F w nonce tg)) rfl mM (List.take_of_length_le (Nat.le_of_eq (a0b _ _))) (a0b _ _)) ⟨_,List.Sublist.cons _ (List.Sublist.cons_cons _ (List.nil_sublist _)),.refl _⟩ ⟨V,hV,rfl,rfl⟩
end Go.Proofs.YtojomcdjcpmnkaaGreat.By
namespace Go.Proofs.YtojomcdjcpmnkaaGreat.By
open Go.RowKit L A
attribute [local irreducible] AW AQ AO
attribute [local simp] a0b
abbrev wK (key:List UInt8):Nat→UInt8:=wS (kf key)
def d0q (aad plain:List UInt8):Bool:=decide ((aad.length:Int)≤4096)&&decide ((plain.length:Int)≤4096)
def e0C (key nonce aad plain:List UInt8)(tag:Int):List UInt8:=
 if cvB key nonce tag&&d0q aad plain then fnB plain.length (j0d (wK key) nonce plain)++fnB tag.toNat (g0F (wK key) nonce (l0k (wK key) nonce aad plain tag))else []
def c0C (key nonce aad plain:List UInt8)(tag:Int):Int:=
 if cvB key nonce tag then(if d0q aad plain then 0 else 8)else 1
theorem k0N {key nonce aad plain:List UInt8}{tag:Int}(h:cvB key nonce tag=false):e0C key nonce aad plain tag= []∧c0C key nonce aad plain tag=1:=by
 simp[e0C,c0C,h]
theorem j0n {key nonce aad plain:List UInt8}{tag:Int}(h:cvB key nonce tag=true)(h2:d0q aad plain=false):e0C key nonce aad plain tag= []∧c0C key nonce aad plain tag=8:=by
 simp[e0C,c0C,h,h2]
theorem d0X {key nonce aad plain:List UInt8}{tag:Int}(h:cvB key nonce tag=true)(h2:d0q aad plain=true):e0C key nonce aad plain tag=fnB plain.length (j0d (wK key) nonce plain)++fnB tag.toNat (g0F (wK key) nonce (l0k (wK key) nonce aad plain tag))∧c0C key nonce aad plain tag=0:=by
 simp[e0C,c0C,h,h2]
theorem q0J {T:Nat}(h:T≤16)(f:Nat→UInt8):((arB 16 f).drop (0+0*1)).take ((T-0)*1)=arB T f:=by
 rw[show(T-0)*1=T by omega]
 have:=m0q (n:=16) (f:=f) (j:=0+0*1) (k:=T) (by omega)
 rw[this]
 exact a0e fun q _=>by rw[show 0+0*1+q=q by omega]
theorem k0S (n T:Nat)(f g:Nat→UInt8):AV.ro false (n+(T-0)) (arB n f++arB T g)=roB (fnB n f++fnB T g):=by
 unfold roB
 rw[cH,d0b,d0b,Nat.sub_zero]
 show _=AV.ro false (n+T) (a0a (fnB n f++fnB T g))
 rw[a0a,List.map_append];rfl
theorem m0J (key nonce aad plain:List UInt8)(tag:Int)(ha:aad.length≤1000000)(hp:plain.length≤1000000):Sp Tryz.prog 116 [roB key,roB nonce,roB aad,roB plain,.val (.int .i64 tag)] [] (Is (.tup [roB (e0C key nonce aad plain tag),.val (.int .i64 (c0C key nonce aad plain tag))])):=by
 refine yr Tryz.func116 _ Tryz.ntmps116 (fun w0 R0=> ?_)
 refine zB (zr ?_)
 refine zc ?_
 refine zc (zE (zm (zB (yT (zB (zr ?_))))))
 refine zb ?_
 refine zb ?_
 refine zb ?_
 refine wl (xl rfl Tryz.func156 rfl rfl rfl (l0D key nonce _)) ?_
 refine xf ?_
 refine zc (zE (zm ?_))
 refine yk (fun h=> ?_) (fun h=> ?_)<;>(try simp only[wr]at h)
 ·have hb:cvB key nonce tag=false:=by simpa using h
  obtain⟨e1,e2⟩:=k0N (aad:=aad) (plain:=plain) hb
  rw[e1,e2]
  refine zB (zr ?_)
  refine zc ?_
  refine zc (zE (zm (yR ?_)))
  refine xN (y0 ?_)
  refine wg yU yy (⟨rfl,rfl⟩)
 obtain⟨hk,hn7,hn13,ht4,ht16,ht2⟩:=p0m h
 refine zB (zr ?_)
 refine zb ?_
 refine zR ?_
 refine yw ?_
 refine zb ?_
 refine yl ?_
 refine zX 26 ?_
 refine yb 27 ?_
 refine zF ?_
 refine zc (zE (zm ?_))
 refine yk (fun h2=> ?_) (fun h2=> ?_)<;>(try simp only[wr]at h2)
 ·have hb:d0q aad plain=false:=by
   simp only[d0q,Bool.and_eq_false_iff,decide_eq_false_iff_not]
   omega
  obtain⟨e1,e2⟩:=j0n h hb
  rw[e1,e2]
  refine zB (zr ?_)
  refine zc ?_
  refine zc (zE (zm (yR ?_)))
  refine xN (y0 ?_)
  refine wg yU yy (⟨rfl,rfl⟩)
 have hb:d0q aad plain=true:=by
  simp only[d0q,Bool.and_eq_true,cQ]
  omega
 obtain⟨e1,e2⟩:=d0X h hb
 rw[e1,e2]
 obtain⟨T,hT⟩: ∃T:Nat,T=tag.toNat:=⟨_,rfl⟩
 rw[←hT]
 have hT':tag=(T:Int):=by omega
 have ha':aad.length≤10000:=by omega
 have hp':plain.length≤10000:=by omega
 refine AW.g ?_
 refine G.re 0 (.ro false 16 (arB 16 (kf key))) (congrArg some (o0t hk)) ?_
 refine AW.u (yI (y5 (zm (zB (zr ?_)))))
 refine zb ?_
 refine AO.opB (xl rfl Tryz.func157 rfl rfl rfl (k0w _)) rfl rfl rfl ?_
 intro B1
 refine zc ?_
 refine AO.g ?_
 refine G.freezePtr 0 12 rfl rfl ?_
 refine AO.u ?_
 dsimp only[List.eraseIdx]
 refine zE (zm (zB (zr ?_)))
 refine zb ?_
 refine zb ?_
 refine zb ?_
 refine zb ?_
 refine zb ?_
 refine zb ?_
 refine zb ?_
 refine zb ?_
 refine wl (xl rfl Tryz.func159 rfl rfl rfl (n0L _ nonce aad plain tag hn13 ⟨ht4,ht16⟩ ha' hp')) ?_
 refine AO.opN (xl rfl Tryz.func158 rfl rfl rfl (j0b _ nonce plain _ hn13 (by omega))) rfl rfl rfl ?_
 rintro _ _ ⟨V442,hV442,rfl,rfl⟩
 simp only[cA,cN]
 refine zb ?_
 refine zW ?_
 refine zW ?_
 refine zd ?_
 intro B3
 refine zc ?_
 refine y6 0 ?_
 refine AO.g ?_
 refine G.freezePtr 0 14 rfl rfl ?_
 refine AO.u ?_
 dsimp only[List.eraseIdx]
 refine zE (zm (zB (zr ?_)))
 refine zb ?_
 refine zb ?_
 refine wl (O.sliceArrRK (p:=0) (q:=T) rfl rfl rfl rfl (by rfl) (by omega) ⟨by omega,by omega⟩ (by omega) (by(unfold maxLen;omega)) (by exact q0J (by omega) _)) ?_
 refine AO.append' (i:=0) rfl rfl rfl rfl (by rfl) (by rfl) rfl rfl rfl (by exact SrcA.ro TyD.ax (by(simp;done)) (lB rfl)) (by exact c0w _ _) (by(unfold maxLen;omega)) (by omega) (by(dsimp only[List.set,cA,cN,List.take,List.drop];done)) (fun _=>by(dsimp only[List.set];done)) ?_
 intro V4 hV4
 refine AO.g ?_
 refine yG 0 [48] ?_
 refine AO.u ?_
 dsimp only[List.map,List.eraseIdx,cA,cN]
 refine zc ?_
 refine zc (zE (zm (yR ?_)))
 refine AQ.g ?_
 refine G.re 10 (roB (fnB plain.length (j0d (wK key) nonce plain)++fnB T (g0F (wK key) nonce (l0k (wK key) nonce aad plain tag)))) (congrArg some (k0S _ T _ _)) ?_
 refine AQ.u ?_
 refine wg yU xk (⟨rfl,rfl⟩)
end Go.Proofs.YtojomcdjcpmnkaaGreat.By
namespace Go.Proofs.YtojomcdjcpmnkaaGreat.By
open Go.RowKit L A
attribute [local irreducible] AW AQ AO
attribute [local simp] a0b
theorem d0v {w:Nat→UInt8}: ∀(n:Nat) (l:List UInt8) (x y:Nat→UInt8),l.length≤n→(∀q,q<16→x q=y q)→ ∀q,q<16→absorb w x l q=absorb w y l q
 |0,l,x,y,hl,h,q,hq=>by
  obtain rfl:l= []:=List.eq_nil_of_length_eq_zero (by omega)
  rw[a0U,a0U];exact h q hq
 |n+1,l,x,y,hl,h,q,hq=>by
  by_cases e:l= []
  ·subst e;rw[a0U,a0U];exact h q hq
  rw[b0K e,b0K e]
  have h0:0<l.length:=List.length_pos_iff.2 e
  exact d0v n _ _ _ (by rw[List.length_drop];omega) (k0e fun q hq=>by rw[h q hq]) q hq
end Go.Proofs.YtojomcdjcpmnkaaGreat.By
namespace Go.Proofs.YtojomcdjcpmnkaaGreat.By
open Go.RowKit L A
attribute [local irreducible] AW AQ AO
attribute [local simp] a0b
def l0V (aad cipher:List UInt8)(tag:Int):Bool:=decide ((aad.length:Int)≤4096)&&decide ((cipher.length:Int)≤4096+tag)
def o0K (key nonce cipher:List UInt8)(tag:Int):List UInt8:=fnB (cipher.length-tag.toNat) (j0d (wK key) nonce (cipher.take (cipher.length-tag.toNat)))
def o0M (key nonce aad cipher:List UInt8)(tag:Int):Bool:=e0C key nonce aad (o0K key nonce cipher tag) tag==cipher
def q0m (key nonce aad cipher:List UInt8)(tag:Int):List UInt8:=
 if cvB key nonce tag&&l0V aad cipher tag&&decide (tag≤(cipher.length:Int))&&o0M key nonce aad cipher tag then o0K key nonce cipher tag else []
def q0n (key nonce aad cipher:List UInt8)(tag:Int):Int:=
 if cvB key nonce tag then(if l0V aad cipher tag then(if tag≤(cipher.length:Int)then(if o0M key nonce aad cipher tag then 0 else 11)else 2)else 8)else 1
end Go.Proofs.YtojomcdjcpmnkaaGreat.By
namespace Go.Proofs.YtojomcdjcpmnkaaGreat.By
open Go.RowKit L A
attribute [local irreducible] AW AQ AO
def l0U (outer inner:Msg)(v:Cmp)(key nonce aad:List UInt8):Msg:=⟨outer.ty,outer.code,outer.id,outer.tok,d0p outer.opts 9 [(c0S v).1],e0C key nonce aad (b0i inner).1 8⟩
def i0j (outer inner:Msg)(v:Cmp)(key nonce aad:List UInt8):Msg×Int:=
 if(b0i inner).2≠0 then(Msg.none,(b0i inner).2)else
 if c0C key nonce aad (b0i inner).1 8≠0 then(Msg.none,c0C key nonce aad (b0i inner).1 8)else
 if(e0W (l0U outer inner v key nonce aad)).2≠0 then(Msg.none,8)else(l0U outer inner v key nonce aad,0)
theorem m0M {outer inner:Msg}{v:Cmp}{key nonce aad:List UInt8}(h:(b0i inner).2≠0):i0j outer inner v key nonce aad=(Msg.none,(b0i inner).2):=if_pos h
theorem m0L {outer inner:Msg}{v:Cmp}{key nonce aad:List UInt8}(h:(b0i inner).2=0)(h2:c0C key nonce aad (b0i inner).1 8≠0):i0j outer inner v key nonce aad=(Msg.none,c0C key nonce aad (b0i inner).1 8):=(if_neg (fun g=>g h)).trans (if_pos h2)
theorem m0K {outer inner:Msg}{v:Cmp}{key nonce aad:List UInt8}(h:(b0i inner).2=0)(h2:c0C key nonce aad (b0i inner).1 8=0)(h3:(e0W (l0U outer inner v key nonce aad)).2≠0):i0j outer inner v key nonce aad=(Msg.none,8):=(if_neg (fun g=>g h)).trans ((if_neg (fun g=>g h2)).trans (if_pos h3))
theorem j0o {outer inner:Msg}{v:Cmp}{key nonce aad:List UInt8}(h:(b0i inner).2=0)(h2:c0C key nonce aad (b0i inner).1 8=0)(h3:(e0W (l0U outer inner v key nonce aad)).2=0):i0j outer inner v key nonce aad=(l0U outer inner v key nonce aad,0):=(if_neg (fun g=>g h)).trans ((if_neg (fun g=>g h2)).trans (if_neg (fun g=>g h3)))
theorem j0G (m:Msg):(b0i m).1.length≤5000:=by
 unfold b0i
 split
 ·split
  ·rename_i h
   have:=g0m h
   simp only[cL,List.length_drop];omega
  simp
 simp
theorem f0J (c:Cmp):(c0S c).1.length≤100:=by
 unfold c0S
 split
 ·simp
 rename_i h
 have hv:=Decidable.not_not.1 h
 have hp:=c0e c.piv
 obtain⟨⟨-, -,h1,h2⟩, -⟩:=hv
 split
 ·simp
 unfold n0C
 cases c.hasCtx<;>simp<;>omega
abbrev SmS (m:Msg):Prop:=m.tok.length≤1000000∧m.pay.length≤1000000∧m.opts.length≤100000∧ ∀o∈m.opts,o.val.length≤1000000
theorem j0j:SmS Msg.none:=⟨by simp[Msg.none],by simp[Msg.none],by simp[Msg.none],fun o ho=>by cases ho⟩
theorem o0p {m:Msg}(h:ValM m):SmS m:=by
 obtain⟨h1,h2,h3,h4⟩:=ValM.sm h
 refine⟨by omega,by omega,by omega,fun o ho=> ?_⟩
 obtain⟨k,hk,rfl⟩:=List.getElem_of_mem ho
 have:=h4 k hk
 have e:oat m.opts k=m.opts[k]:=by simp[hk]
 rw[e]at this;omega
theorem k0G (m:Msg):SmS (a0s m).2.1:=by
 unfold a0s
 split
 ·rename_i h
  split
  ·exact j0j
  obtain⟨h1,h2,h3,h4⟩:=o0p h.1
  have hl:=h0B m.opts
  exact⟨h1,by show([]:List UInt8).length≤_;simp,by show(g0c m.opts).length≤_;omega,fun o ho=>h4 o (List.mem_filter.1 ho).1⟩
 exact j0j
theorem m0E {outer inner:Msg}{v:Cmp}{key nonce aad:List UInt8}(h:SmS outer):outer.tok.length≤140737488355328∧outer.pay.length≤140737488355328∧(∀o∈outer.opts,o.val.length≤140737488355328)∧(∀w∈ [(c0S v).1],w.length≤140737488355328):=by
 refine⟨by have:=h.1;omega,by have:=h.2.1;omega,fun o ho=>by have:=h.2.2.2 o ho;omega,fun w hw=> ?_⟩
 obtain rfl:=List.mem_singleton.1 hw
 have:=f0J v;omega
abbrev r0w (l:List UInt8):AV:= .ro false 1 [roB l]
def k0V (m:Msg)(v:Cmp)(key nonce aad:List UInt8):Msg×Int:=if(a0s m).2.2≠0 then(Msg.none,(a0s m).2.2)else i0j (a0s m).2.1 (a0s m).1 v key nonce aad
theorem n0a {m:Msg}{v:Cmp}{key nonce aad:List UInt8}(h:(a0s m).2.2≠0):k0V m v key nonce aad=(Msg.none,(a0s m).2.2):=if_pos h
theorem j0D {m:Msg}{v:Cmp}{key nonce aad:List UInt8}(h:(a0s m).2.2=0):k0V m v key nonce aad=i0j (a0s m).2.1 (a0s m).1 v key nonce aad:=if_neg (fun g=>g h)
theorem i0p (c:Cx)(m:Msg)(v:Cmp)(nonce aad:List UInt8)(hv:(c0S v).2=0)(ha:aad.length≤1000000):
  Sp Tryz.prog 61 [h0Z c,b0s m,k0D v,roB nonce,roB aad] [] (Is (r0a (k0V m v c.sk nonce aad))):=by
 have ho:=k0G m
 have hpl:=j0G (a0s m).1
 obtain⟨g1,g2,g3,g4⟩:=m0E (inner:=m) (v:=v) (key:=c.sk) (nonce:=nonce) (aad:=aad) ho
 have hset:Sp Tryz.prog 118 [b0s (a0s m).2.1,.val (.int .i64 9),r0w (c0S v).1] [] (Is (b0s ⟨(a0s m).2.1.ty,(a0s m).2.1.code,(a0s m).2.1.id,(a0s m).2.1.tok,d0p (a0s m).2.1.opts 9 [(c0S v).1],(a0s m).2.1.pay⟩)):=n0e (a0s m).2.1 9 [(c0S v).1] g1 g2 ho.2.2.1 (by simp) g3 g4
 refine yr Tryz.func61 _ Tryz.ntmps61 (fun w0 R0=> ?_)
 refine zB (zr ?_)
 refine ya ?_
 intro B1
 refine ya ?_
 intro B2
 refine ya ?_
 intro B3
 refine zd ?_
 intro B4
 refine zc (zE (zm (zB (zr ?_))))
 refine zD ?_
 refine wl (xl rfl Tryz.func114 rfl rfl rfl (k0H m)) ?_
 refine zb ?_
 refine zW ?_
 refine zW ?_
 refine zW ?_
 refine zd ?_
 intro B5
 refine zd ?_
 intro B6
 refine za 1 ?_
 refine za 0 ?_
 refine zc (zE (zm (zB (zB (zr ?_)))))
 refine zb ?_
 refine yZ (zE (zm ?_))
 refine yk (fun h0=> ?_) (fun h0=> ?_)<;>(try simp only[wr]at h0)
 ·rw[n0a h0]
  refine zB (zr ?_)
  refine zT ?_
  refine zb ?_
  refine za 2 ?_
  refine zc (zE (zm (yR (y0 ?_))))
  refine wg zj zo (⟨rfl,rfl⟩)
 rw[j0D h0]
 refine yI (zm (zB (zr ?_)))
 refine zD ?_
 refine wl (xl rfl Tryz.func115 rfl rfl rfl (n0c (a0s m).1)) ?_
 refine zb ?_
 refine zW ?_
 refine zW ?_
 refine zc ?_
 refine zc (zE (zm (zB (zB (zr ?_)))))
 refine zb ?_
 refine yZ (zE (zm ?_))
 refine yk (fun h1=> ?_) (fun h1=> ?_)<;>(try simp only[wr]at h1)
 ·rw[m0M h1]
  refine zB (zr ?_)
  refine zT ?_
  refine zb ?_
  refine za 2 ?_
  refine zc (zE (zm (yR (y0 ?_))))
  refine wg zj zo (⟨rfl,rfl⟩)
 refine yI (zm (zB (zr ?_)))
 refine zq ?_
 refine zv ?_
 refine zb ?_
 refine zb ?_
 refine zb ?_
 refine wl (xl rfl Tryz.func116 rfl rfl rfl (m0J c.sk nonce aad (b0i (a0s m).1).1 8 ha (by omega))) ?_
 refine zb ?_
 refine zW ?_
 refine zW ?_
 refine zc ?_
 refine zc (zE (zm (zB (zB (zr ?_)))))
 refine zb ?_
 refine yZ (zE (zm ?_))
 refine yk (fun h2=> ?_) (fun h2=> ?_)<;>(try simp only[wr]at h2)
 ·rw[m0L h1 h2]
  refine zB (zr ?_)
  refine zT ?_
  refine zb ?_
  refine za 2 ?_
  refine zc (zE (zm (yR (y0 ?_))))
  refine wg zj zo (⟨rfl,rfl⟩)
 refine yI (zm (zB (zr ?_)))
 refine zD ?_
 refine wl (xl rfl Tryz.func117 rfl rfl rfl (i0I v)) ?_
 refine zb ?_
 refine zW ?_
 refine zW ?_
 refine zc ?_
 refine zc (zE (zm (zB (zB (zr ?_)))))
 refine zb ?_
 refine wl (O.neq rfl rfl rfl (by exact bne_eq_false_iff_eq.2 (by omega))) (zE (zm ?_))
 refine yk (fun h3=> ?_) (fun h3=> ?_)<;>(try simp only[wr]at h3)
 ·exact absurd h3 (by simp)
 refine yI (zm (zB (zr ?_)))
 refine zy ?_
 refine zb ?_
 refine zQ ?_
 intro B7
 refine AO.g ?_
 refine z6 0 62 ?_
 refine xz 62 ?_
 refine AO.u ?_
 dsimp only[List.eraseIdx]
 refine wl (xl rfl Tryz.func118 rfl rfl rfl hset) ?_
 refine zd ?_
 intro B8
 refine za 0 (zE (zm (zB (zr ?_))))
 refine zb ?_
 refine zq ?_
 refine za 0 (zE (zm (zB (zB (zr ?_)))))
 refine zy ?_
 refine wl (xl rfl Tryz.func119 rfl rfl rfl (k0d (l0U (a0s m).2.1 (a0s m).1 v c.sk nonce aad))) ?_
 refine zb ?_
 refine zW ?_
 refine zW ?_
 refine zc (zE (zm (zB (zr ?_))))
 refine zb ?_
 refine yZ (zE (zm ?_))
 refine yk (fun h4=> ?_) (fun h4=> ?_)<;>(try simp only[wr]at h4)
 ·rw[m0K h1 h2 h4]
  refine zB (zr ?_)
  refine zT ?_
  refine za 3 ?_
  refine zc (zE (zm (yR (y0 ?_))))
  refine wg zj zo (⟨rfl,rfl⟩)
 rw[j0o h1 h2 h4]
 refine yI (zm (zB (zr ?_)))
 refine zy ?_
 refine za 3 ?_
 refine zc (zE (zm (yR ?_)))
 refine AQ.retCT rfl rfl rfl mM (by(dsimp only[List.set,cA,cN,List.take,List.drop];rfl)) rfl nS (⟨rfl,rfl⟩)
theorem n0B {c:Cmp}(h:i0U c):(c0S c).2=0:=by
 unfold c0S
 rw[if_neg (fun g=>g h)]
 split<;>rfl
theorem l0I (kid:List UInt8)(piv:Int):(i0T kid piv).1.length≤1000:=by
 unfold i0T
 split
 ·simp
 rename_i h
 split
 ·simp
 have hpl:=c0e piv
 have hxl:=i0a (kid:=kid) (pb:=b0O piv) (by omega) hpl
 show(f0f [i0g k0f,b0P [],b0P (l0H kid (b0O piv))]).length≤1000
 have hsl:(b0P (l0H kid (b0O piv))).length=1+(l0H kid (b0O piv)).length:=by rw[b0P,a0Y hxl,cH];rfl
 have h4:(i0g k0f).length=9:=rfl
 have h5:(b0P []).length=1:=rfl
 rw[f0f,a0Y (by show 3<24;omega),cH]
 simp only[List.flatten_cons,List.flatten_nil,cP,cH,cL,cE]
 omega
abbrev o0h (c:Cx)(piv:Int):Cmp:=⟨piv,true,c.inp.snd,c.inp.has,c.inp.ctx,false⟩
theorem m0x {c:Cx}{piv:Int}(h:g0z c)(h2:c0a piv):(c0S (o0h c piv)).2=0:=by
 obtain⟨⟨⟨h3,h4,h5,h6,h7⟩,h8,h9,h10⟩, -⟩:=h
 refine n0B ⟨⟨by show -1≤piv;omega,by show piv≤_;omega,by show(c.inp.snd.length:Int)≤7;omega,by show(c.inp.ctx.length:Int)≤16;omega⟩,.inl rfl,?_⟩
 rcases h7 with h7|h7
 ·exact .inl h7
 exact .inr (by show(c.inp.ctx.length:Int)=0;omega)
def k0A (c:Cx)(m:Msg)(piv:Int):Msg×Int:=k0V m (o0h c piv) c.sk (a0V c.com c.inp.snd piv).1 (i0T c.inp.snd piv).1
def n0X (c:Cx)(m:Msg)(piv:Int):Msg×Bd×Int:=
 if ¬(g0z c∧m0t m.code)then(Msg.none,Bd.none,1)else if ¬c0a piv then(Msg.none,Bd.none,8)else
 if(k0A c m piv).2≠0 then(Msg.none,Bd.none,(k0A c m piv).2)else((k0A c m piv).1,⟨c.inp.ctx,c.inp.snd,piv⟩,0)
abbrev r0x (r:Msg×Bd×Int):AV:= .tup [b0s r.1,i0P r.2.1,.val (.int .i64 r.2.2)]
theorem o0z {c:Cx}{m:Msg}{piv:Int}(h: ¬(g0z c∧m0t m.code)):n0X c m piv=(Msg.none,Bd.none,1):=if_pos h
theorem o0y {c:Cx}{m:Msg}{piv:Int}(h:g0z c∧m0t m.code)(h2: ¬c0a piv):n0X c m piv=(Msg.none,Bd.none,8):=(if_neg (fun g=>g h)).trans (if_pos h2)
theorem o0x {c:Cx}{m:Msg}{piv:Int}(h:g0z c∧m0t m.code)(h2:c0a piv)(h3:(k0A c m piv).2≠0):n0X c m piv=(Msg.none,Bd.none,(k0A c m piv).2):=(if_neg (fun g=>g h)).trans ((if_neg (fun g=>g h2)).trans (if_pos h3))
theorem l0S {c:Cx}{m:Msg}{piv:Int}(h:g0z c∧m0t m.code)(h2:c0a piv)(h3:(k0A c m piv).2=0):n0X c m piv=((k0A c m piv).1,⟨c.inp.ctx,c.inp.snd,piv⟩,0):=(if_neg (fun g=>g h)).trans ((if_neg (fun g=>g h2)).trans (if_neg (fun g=>g h3)))
theorem g0T (c:Cx)(m:Msg)(piv:Int):Sp Tryz.prog 16 [h0Z c,b0s m,.val (.int .i64 piv)] [] (Is (r0x (n0X c m piv))):=by
 refine yr Tryz.func16 _ Tryz.ntmps16 (fun w0 R0=> ?_)
 refine zB (zr ?_)
 refine ya ?_
 intro B1
 refine ya ?_
 intro B2
 refine zd ?_
 intro B3
 refine zd ?_
 intro B4
 refine zc (zE (zm (zB (zB (zr ?_)))))
 refine zD ?_
 refine wl (xl rfl Tryz.func27 rfl rfl rfl (c0G c)) ?_
 refine xf ?_
 refine zb ?_
 refine zJ ?_
 refine yO 20 ?_
 refine AO.opG rfl rfl rfl (fun hp=>wo 21 rfl (by exact hp) (xl rfl Tryz.func57 rfl rfl rfl (n0f _))) ?_
 refine y3 22 ?_
 refine zF (zE (zm ?_))
 refine yk (fun h1=> ?_) (fun h1=> ?_)<;>(try simp only[wr]at h1)
 ·rw[o0z (fun g=>by rcases h1 with h|h;exact h g.1;exact h g.2)]
  refine zB (zr ?_)
  refine zT ?_
  refine zT ?_
  refine za 1 ?_
  refine za 0 ?_
  refine zc (zE (zm (yR (y0 ?_))))
  refine wg y1 zo (⟨rfl,rfl⟩)
 have h1':g0z c∧m0t m.code:=h1
 obtain⟨⟨⟨k1,k2,k3,k4,k5⟩,k6,k7,k8⟩,k9,k10,k11⟩:=h1'.1
 refine yI (zm (zB (zB (zr ?_))))
 refine zb ?_
 refine wl (xl rfl Tryz.func58 rfl rfl rfl (g0U _)) ?_
 refine xf (zE (zm ?_))
 refine yk (fun h2=> ?_) (fun h2=> ?_)<;>(try simp only[wr]at h2)
 ·rw[o0y h1' h2]
  refine zB (zr ?_)
  refine zT ?_
  refine zT ?_
  refine za 1 ?_
  refine za 0 ?_
  refine zc (zE (zm (yR (y0 ?_))))
  refine wg y1 zo (⟨rfl,rfl⟩)
 have h2':c0a piv:=h2
 have hal:=l0I c.inp.snd piv
 have hpr:Sp Tryz.prog 61 [h0Z c,b0s m,k0D (o0h c piv),roB (a0V c.com c.inp.snd piv).1,roB (i0T c.inp.snd piv).1] [] (Is (r0a (k0A c m piv))):=i0p c m _ _ _ (m0x h1'.1 h2') (by omega)
 refine yI (zm (zB (zr ?_)))
 refine zq ?_
 refine zv ?_
 refine zq ?_
 refine zq ?_
 refine zv ?_
 refine zb ?_
 refine wl (xl rfl Tryz.func59 rfl rfl rfl (f0w _ _ _ (by omega))) ?_
 refine zb ?_
 refine zW ?_
 refine zW ?_
 refine zc ?_
 refine zc (zE (zm (zB (zr ?_))))
 refine zq ?_
 refine zq ?_
 refine zv ?_
 refine zb ?_
 refine wl (xl rfl Tryz.func60 rfl rfl rfl (n0H _ _)) ?_
 refine zb ?_
 refine zW ?_
 refine zW ?_
 refine zc ?_
 refine zc (zE (zm (zB (zr ?_))))
 refine zb ?_
 refine zq ?_
 refine zq ?_
 refine zv ?_
 refine zq ?_
 refine zq ?_
 refine zv ?_
 refine zq ?_
 refine zq ?_
 refine zv ?_
 refine zT ?_
 refine zd ?_
 intro B5
 refine za 0 (zE (zm (zB (zr ?_))))
 refine zD ?_
 refine zD ?_
 refine zy ?_
 refine zb ?_
 refine zb ?_
 refine wl (xl rfl Tryz.func61 rfl rfl rfl hpr) ?_
 refine zb ?_
 refine zW ?_
 refine zW ?_
 refine zd ?_
 intro B6
 refine za 0 ?_
 refine zc (zE (zm (zB (zB (zr ?_)))))
 refine zb ?_
 refine yZ (zE (zm ?_))
 refine yk (fun h3=> ?_) (fun h3=> ?_)<;>(try simp only[wr]at h3)
 ·rw[o0x h1' h2' h3]
  refine zB (zr ?_)
  refine zT ?_
  refine zT ?_
  refine zb ?_
  refine za 3 ?_
  refine za 2 ?_
  refine zc (zE (zm (yR (y0 ?_))))
  refine wg xI zo (⟨rfl,rfl⟩)
 rw[l0S h1' h2' h3]
 refine yI (zm (zB ?_))
 refine AW.regionM [(0,false),(1,false),(2,false),(3,false),(4,false),(5,false),(6,false),(7,false),(8,false),(9,false),(10,false),(11,true),(12,true),(13,false)] (by kernel_rfl) (by kernel_rfl) (by exact(by exact a0G 6 3 rfl rfl (by exact a0G 7 2 rfl rfl a0D))) ?_
 dsimp only[List.eraseIdx]
 refine xi ?_
 refine wn rfl zx ?_
 refine wn rfl zx ?_
 refine wn rfl zk ?_
 refine wn rfl (xl rfl Tryz.func62 rfl rfl rfl (c0Y _ (by omega))) ?_
 refine wn rfl zx ?_
 refine wn rfl zx ?_
 refine wn rfl zk ?_
 refine wn rfl (xl rfl Tryz.func62 rfl rfl rfl (c0Y _ (by omega))) ?_
 refine xg ?_
 refine wn rfl yi ?_
 refine AM.main _ rfl (fun w0 R0=> ?_)
 refine za 0 (AM.okN ?_)
 dsimp only[b0d]
 refine AM.main _ rfl (fun w0 R0=> ?_)
 refine za 1 (AM.okN ?_)
 dsimp only[b0d]
 refine wn rfl zi ?_
 refine AM.nil ?_
 dsimp only[cA,cN]
 refine zm (yR ?_)
 refine wg yn xk (⟨rfl,rfl⟩)
end Go.Proofs.YtojomcdjcpmnkaaGreat.By
namespace Go.Proofs.YtojomcdjcpmnkaaGreat.By
open Go.RowKit L A
def oxK:List UInt8:= [240,145,14,215,41,94,106,212,181,79,199,147,21,67,2,255]
def oxN:List UInt8:= [70,34,212,221,109,148,65,104,238,251,84,152,104]
def oxA:List UInt8:= [131,104,69,110,99,114,121,112,116,48,64,72,133,1,129,10,64,65,20,64]
def oxP:List UInt8:= [1,179,116,118,49]
def oxW:List UInt8:= [240,145,14,215,41,94,106,212,181,79,199,147,21,67,2,255,235,230,24,142,194,184,114,90,119,247,181,201,98,180,183,54,100,79,29,36,166,247,111,126,209,0,218,183,179,180,109,129,237,115,17,73,75,132,126,55,154,132,164,128,41,48,201,1,225,174,109,236,170,42,19,219,48,174,183,91,25,158,126,90,250,93,211,56,80,119,192,227,96,217,119,184,121,71,9,226,122,92,75,142,42,43,139,109,74,242,252,213,51,181,245,55,239,186,209,77,197,145,90,32,143,99,166,245,188,214,83,194,153,87,244,40,92,198,174,8,211,165,8,253,111,115,91,63,13,110,129,128,81,168,47,136,130,13,39,117,237,126,124,74,200,126,87,213,153,214,120,93,27,219,95,40,246,165,35,98]
def oxA1:List (List UInt8):= [[241,215,44,3,244,51,254,149,221,161,60,199,141,43,2,254],[188,71,97,51,253,129,156,51,189,118,25,69,183,229,216,243],[99,88,208,73,228,179,159,70,121,58,226,146,177,81,113,195],[1,207,222,246,154,51,135,217,175,65,205,84,136,21,23,109],[198,175,247,110,237,198,21,255,1,119,242,254,56,76,126,208],[183,106,74,34,146,66,39,63,157,89,200,81,30,226,19,166],[139,170,105,226,28,253,91,55,230,147,18,147,204,93,110,214],[86,153,48,96,158,140,140,247,63,255,56,230,32,73,185,41],[238,130,219,210,246,203,116,238,24,194,246,141,217,33,67,112],[111,239,193,7,21,59,184,0,78,185,102,141,125,157,130,46],[96,156,100,228,192,128,107,152,52,133,39,75,9,122,79,63]]
def oxA0:List (List UInt8):= [[241,215,44,3,244,51,254,149,221,161,60,199,141,43,2,255],[17,234,141,114,253,129,156,51,189,118,25,69,183,229,216,243],[182,191,55,123,103,48,1,91,203,247,157,32,216,31,86,228],[74,190,92,19,114,56,137,56,92,140,31,137,56,114,154,163],[149,39,57,94,67,12,219,61,41,189,32,129,254,139,112,15],[118,36,232,227,227,50,234,86,67,23,162,45,238,163,3,89],[158,167,98,82,105,93,175,247,74,251,9,19,102,187,141,85],[208,214,139,254,96,145,22,98,223,247,109,4,58,171,73,72],[143,40,139,161,223,48,182,93,197,18,107,84,192,63,174,234],[31,19,154,123,224,186,253,120,59,74,90,84,176,94,14,165],[8,138,233,211,120,0,211,124,249,131,231,148,17,216,119,66]]
def oxB0:List (List UInt8):= [[169,215,44,3,244,51,254,149,221,161,60,199,141,43,2,250],[206,163,178,146,253,129,156,51,189,118,25,69,183,229,216,243],[164,182,62,96,104,63,16,69,161,73,73,74,84,30,219,105],[34,100,75,53,229,183,2,193,180,241,41,202,167,31,73,82],[153,128,6,78,86,113,188,6,161,14,15,84,103,169,19,98],[31,222,151,139,157,35,81,163,106,136,249,140,97,204,235,158],[25,107,153,124,21,251,159,216,17,239,160,4,100,108,18,25],[121,159,182,118,212,61,101,253,239,9,16,20,146,239,207,92],[7,160,52,144,125,49,160,43,22,89,104,190,48,188,64,151],[3,121,138,93,155,161,169,144,74,89,61,56,144,52,170,1],[179,76,112,169,141,29,212,17,205,195,33,72,150,19,240,101]]
def oxS2:List (List UInt8):= [[67,201,253,22,225,45,221,183,1,252,146,235,195,24,119,155],[247,146,120,31,80,120,2,130,158,159,44,253,106,138,253,145],[155,86,179,72,226,53,20,159,234,59,249,78,69,229,50,23],[13,16,177,129,44,244,180,225,73,198,86,11,232,29,136,166],[27,240,16,200,71,115,81,32,129,125,176,145,215,45,83,253],[134,145,218,18,20,246,125,193,118,140,238,203,186,163,170,180],[145,105,145,41,12,63,22,57,11,95,232,48,184,93,68,112],[163,54,251,153,214,98,169,188,158,90,238,97,55,158,68,192],[250,208,209,219,135,148,249,107,178,204,185,46,115,98,83,153],[137,19,11,68,246,188,98,126,72,72,71,70,208,144,249,75],[111,27,247,102,219,132,225,70,73,187,116,219,134,216,137,56]]
def oxS3:List (List UInt8):= [[30,128,185,240,230,154,139,146,252,244,179,72,147,155,139,199],[119,142,89,90,174,152,182,82,41,218,108,222,226,252,42,29],[171,98,249,101,215,55,212,156,128,152,66,56,224,209,87,95],[127,133,251,220,139,166,87,162,30,91,7,204,90,65,27,213],[244,99,15,102,178,9,195,29,127,234,22,53,204,179,60,217],[238,28,188,206,116,64,232,176,186,239,211,157,65,5,68,221],[150,13,254,0,255,186,118,9,134,152,155,9,84,253,37,18],[14,44,221,143,127,41,209,165,65,88,216,212,167,10,215,79],[197,138,175,25,32,161,159,231,160,182,127,201,50,199,210,4],[44,51,167,110,151,147,192,2,229,101,84,194,47,10,240,43],[185,162,119,36,17,155,244,194,194,188,3,95,227,102,153,71]]
def oxS4:List (List UInt8):= [[72,128,13,133,9,197,158,22,119,243,196,204,246,37,155,184],[206,171,96,26,84,8,244,117,87,89,3,171,234,33,243,160],[162,201,107,50,15,239,99,135,54,76,123,86,221,79,75,10],[165,232,31,55,76,77,57,113,111,4,226,90,134,247,240,6],[36,169,18,67,227,233,126,241,160,46,18,77,139,127,92,120],[193,171,173,214,113,192,90,159,190,103,52,193,125,42,36,88],[45,9,7,112,35,53,192,215,119,242,240,225,182,47,135,1],[21,166,24,220,79,214,40,118,138,230,197,61,97,183,96,64],[133,1,23,129,144,168,142,214,90,70,214,11,213,175,145,75],[32,212,237,107,242,232,24,235,104,188,26,210,93,133,76,124],[127,229,245,197,16,179,81,34,94,76,10,193,186,237,142,215]]
def o0H:List UInt8:= [97,47,16,146,241,119,111,28,22,104,179,130,94]
theorem r0C: ∀q,q<176→wK oxK q=oxW.getD q 0:=o0g (by decide +kernel) (by decide +kernel)
theorem j0H {f:Nat→UInt8}{ST:List (List UInt8)}(h0: ∀q,q<16→f q^^^oxW.getD q 0=kf (ST.getD 0 []) q)(h: ∀j,j<10→ ∀q,q<16→l0x oxW (ST.getD j []) j q=kf (ST.getD (j+1) []) q): ∀q,q<16→enc (wK oxK) f q=kf (ST.getD 10 []) q:=
 k0c r0C h0 h 10 (Nat.le_refl _)
theorem h0A {x:Nat→UInt8}{l X:List UInt8}{ST:List (List UInt8)}(hx: ∀q,q<16→x q=kf X q)(hl:l≠ [])(h0: ∀q,q<16→(kf X q^^^kf l q)^^^oxW.getD q 0=kf (ST.getD 0 []) q)(h: ∀j,j<10→ ∀q,q<16→l0x oxW (ST.getD j []) j q=kf (ST.getD (j+1) []) q):
  ∀q,q<16→absorb (wK oxK) x l q=absorb (wK oxK) (kf (ST.getD 10 [])) (l.drop 16) q:=fun q hq=>by
 rw[b0K hl]
 exact d0v _ _ _ _ (Nat.le_refl _) (j0H (f:=fun q=>x q^^^kf l q) (fun q hq=>by rw[hx q hq];exact h0 q hq) h) q hq
def oxB:List UInt8:=fnB 16 (g0y (k0C oxA oxN 8) oxN oxP.length)
theorem q0k: ∀q,q<16→absorb (wK oxK) (fun _=>0) oxB q=kf (oxB0.getD 10 []) q:=fun q hq=>by
 rw[h0A (x:=fun _=>0) (X:= []) (ST:=oxB0) (fun q _=>rfl) (by decide +kernel) (by decide +kernel) (by decide +kernel) q hq,show oxB.drop 16= [] by decide +kernel,a0U]
theorem q0j: ∀q,q<16→absorb (wK oxK) (absorb (wK oxK) (fun _=>0) oxB) (e0c oxA) q=kf (oxS3.getD 10 []) q:=fun q hq=>by
 rw[h0A (X:=oxB0.getD 10 []) (ST:=oxS2) q0k (by decide +kernel) (by decide +kernel) (by decide +kernel) q hq]
 rw[h0A (X:=oxS2.getD 10 []) (l:=(e0c oxA).drop 16) (ST:=oxS3) (fun q _=>rfl) (by decide +kernel) (by decide +kernel) (by decide +kernel) q hq,show((e0c oxA).drop 16).drop 16= [] by decide +kernel,a0U]
theorem q0i: ∀q,q<16→absorb (wK oxK) (absorb (wK oxK) (absorb (wK oxK) (fun _=>0) oxB) (e0c oxA)) oxP q=kf (oxS4.getD 10 []) q:=fun q hq=>by
 rw[h0A (X:=oxS3.getD 10 []) (ST:=oxS4) q0j (by decide +kernel) (by decide +kernel) (by decide +kernel) q hq,show oxP.drop 16= [] by decide +kernel,a0U]
theorem o0F: ∀q,q<16→l0k (wK oxK) oxN oxA oxP 8 q=kf (oxS4.getD 10 []) q:=fun q hq=>by
 rw[l0k,if_neg (by decide)];exact q0i q hq
theorem o0D: ∀q,q<16→g0F (wK oxK) oxN (l0k (wK oxK) oxN oxA oxP 8) q=kf (oxS4.getD 10 []) q^^^kf (oxA0.getD 10 []) q:=fun q hq=>by
 rw[g0F,o0F q hq,j0H (ST:=oxA0) (by decide +kernel) (by decide +kernel) q hq]
theorem o0E: ∀q,q<5→j0d (wK oxK) oxN oxP q=kf oxP q^^^kf (oxA1.getD 10 []) q:=fun q hq=>by
 rw[j0d,show q/16=0 by omega,show q%16=q by omega,j0H (ST:=oxA1) (by decide +kernel) (by decide +kernel) q (by omega)]
theorem n0d:e0C oxK oxN oxA oxP 8=o0H:=by
 rw[(d0X (by decide +kernel) (by decide +kernel)).1]
 rw[show oxP.length=5 from rfl,e0e o0E,show(8:Int).toNat=8 from rfl,e0e fun q hq=>o0D q (by omega)]
 decide +kernel
theorem o0G:c0C oxK oxN oxA oxP 8=0:=(d0X (by decide +kernel) (by decide +kernel)).2
attribute [local irreducible] AW AQ AO
def oexI:Inp:=⟨h0O,m0h,false,[],[],[1]⟩
def r0F:List UInt8:= [0xff,0xb1,0x4e,0x09,0x3c,0x94,0xc9,0xca,0xc9,0x47,0x16,0x48,0xb4,0xf9,0x87,0x10]
def r0E:List UInt8:= [0x46,0x22,0xd4,0xdd,0x6d,0x94,0x41,0x68,0xee,0xfb,0x54,0x98,0x7c]
def oexC:Cx:=⟨oexI,oxK,r0F,r0E⟩
theorem n0m:d0k oexI:=of_decide_eq_true rfl
theorem n0l:o0c oexI=(oexC,0):=by
 rw[o0c,if_pos n0m]
 have e1:d0a oexI.snd oexI.ctx oexI.has j0S 16= [0x85,0x40,0xf6,0x0a,0x63,0x4b,0x65,0x79,0x10]:=by decide +kernel
 have e2:d0a oexI.rcp oexI.ctx oexI.has j0S 16= [0x85,0x41,0x01,0xf6,0x0a,0x63,0x4b,0x65,0x79,0x10]:=by decide +kernel
 have e3:d0a [] oexI.ctx oexI.has ivT 13= [0x85,0x40,0xf6,0x0a,0x62,0x49,0x56,0x0d]:=by decide +kernel
 have e0:i0z oexI.salt oexI.sec=k0a:=p0i
 unfold o0b
 rw[e0,e1,e2,e3,p0j,n0z,q0w]
 rfl
def n0Z:Msg:=⟨0,1,23839,[0,0,57,116],[⟨3,[108,111,99,97,108,104,111,115,116]⟩,⟨11,[116,118,49]⟩],[]⟩
def oexO:Msg:=⟨0,2,23839,[0,0,57,116],[⟨3,[108,111,99,97,108,104,111,115,116]⟩,⟨9,[9,20]⟩],o0H⟩
theorem l0h:ValM n0Z:=of_decide_eq_true (by decide +kernel)
theorem l0g:ValM oexO:=of_decide_eq_true (by decide +kernel)
theorem g0d:a0s n0Z=(⟨0,1,0,[],[⟨11,[116,118,49]⟩],[]⟩,⟨0,2,23839,[0,0,57,116],[⟨3,[108,111,99,97,108,104,111,115,116]⟩],[]⟩,0):=by
 rw[a0s,if_pos ⟨l0h,.inl (by decide +kernel)⟩,if_neg (by decide +kernel)]
 decide +kernel
theorem f0v:b0i ⟨0,1,0,[],[⟨11,[116,118,49]⟩],[]⟩=(oxP,0):=by decide +kernel
theorem g0e:(a0V oexC.com oexC.inp.snd 20).1=oxN:=by decide +kernel
theorem j0M:(i0T oexC.inp.snd 20).1=oxA:=by decide +kernel
theorem n0k:(c0S (o0h oexC 20)).1= [9,20]:=by decide +kernel
theorem h0E:k0A oexC n0Z 20=(oexO,0):=by
 have e:l0U ⟨0,2,23839,[0,0,57,116],[⟨3,[108,111,99,97,108,104,111,115,116]⟩],[]⟩ ⟨0,1,0,[],[⟨11,[116,118,49]⟩],[]⟩ (o0h oexC 20) oexC.sk (a0V oexC.com oexC.inp.snd 20).1 (i0T oexC.inp.snd 20).1=oexO:=by
  unfold l0U
  rw[f0v,g0e,j0M,n0k,show oexC.sk=oxK from rfl,n0d]
  decide +kernel
 unfold k0A
 rw[j0D (by rw[g0d]),g0d]
 rw[j0o (by rw[f0v]) (by rw[f0v,g0e,j0M];exact o0G) (by rw[e,e0W,if_pos l0g])]
 rw[e]
theorem n0j:n0X oexC n0Z 20=(oexO,⟨[],[],20⟩,0):=by
 have hok:g0z oexC:=of_decide_eq_true (by decide +kernel)
 rw[l0S ⟨hok,by decide⟩ (by decide) (by rw[h0E]),h0E]
 rfl
theorem f0e:Sp Tryz.prog 10 [] [] (Is (.val (.bool true))):=by
 have hder:=g0o oexI
 rw[n0l]at hder
 have hreq:Sp Tryz.prog 16 [h0Z oexC,b0s n0Z,.val (.int .i64 20)] [] (Is (.tup [b0s oexO,i0P ⟨[],[],20⟩,.val (.int .i64 0)])):=by
  have h:=g0T oexC n0Z 20
  rw[n0j]at h
  exact h
 have hpl:oexO.pay.length=13:=rfl
 have hcd:oexO.code=2:=rfl
 refine yr Tryz.func10 _ Tryz.ntmps10 (fun w0 R0=> ?_)
 refine zB (zr ?_)
 refine zc (zE (zm (zB (zr ?_))))
 refine yF ?_
 intro B1
 refine AO.g ?_
 refine z6 0 7 ?_
 refine xz 7 ?_
 refine AO.u ?_
 dsimp only[List.eraseIdx]
 refine yF ?_
 intro B2
 refine AO.g ?_
 refine z6 0 8 ?_
 refine xz 8 ?_
 refine AO.u ?_
 dsimp only[List.eraseIdx]
 refine zQ ?_
 intro B3
 refine AO.g ?_
 refine z6 0 9 ?_
 refine xz 9 ?_
 refine AO.u ?_
 dsimp only[List.eraseIdx]
 refine zT ?_
 refine wl (xP rfl Tryz.func54 rfl rfl rfl hder) ?_
 refine zb ?_
 refine zW ?_
 refine zW ?_
 refine zd ?_
 intro B4
 refine ye 0 ?_
 refine zc (zE (zm (zB (zr ?_))))
 refine wl wj ?_
 refine yF ?_
 intro B5
 refine AO.g ?_
 refine z6 0 16 ?_
 refine xz 16 ?_
 refine AO.u ?_
 dsimp only[List.eraseIdx]
 refine yF ?_
 intro B6
 refine AO.constBytes (i:=0) (l:= [108,111,99,97,108,104,111,115,116]) rfl rfl rfl (lB rfl) rfl rfl (by rfl) (by rfl) ⟨Nat.le_refl _,by unfold maxLen;omega⟩ ?_
 dsimp only[List.eraseIdx]
 refine zT ?_
 refine yF ?_
 intro B7
 refine AO.constBytes (i:=0) (l:= [116,118,49]) rfl rfl rfl (lB rfl) rfl rfl (by rfl) (by rfl) ⟨Nat.le_refl _,by unfold maxLen;omega⟩ ?_
 dsimp only[List.eraseIdx]
 refine zT ?_
 refine yF ?_
 intro B8
 refine AO.g ?_
 refine z6 0 23 ?_
 refine xz 23 ?_
 refine AO.u ?_
 dsimp only[List.eraseIdx]
 refine zT ?_
 refine wl (xP rfl Tryz.func16 rfl rfl rfl hreq) ?_
 refine zb ?_
 refine zW ?_
 refine zW ?_
 refine zW ?_
 refine zd ?_
 intro B9
 refine zd ?_
 intro B10
 refine ye 1 ?_
 refine ye 0 ?_
 refine zc (zE (zm (zB (zr ?_))))
 refine zb ?_
 refine wl (O.eql rfl rfl rfl (by exact beq_iff_eq.2 (by omega))) ?_
 refine zb ?_
 refine zq ?_
 refine zt ?_
 refine wl (O.eql rfl rfl rfl (by exact beq_iff_eq.2 (by omega))) ?_
 refine wl (O.pickT rfl rfl rfl) ?_
 refine zb ?_
 refine zq ?_
 refine zv ?_
 refine zR ?_
 refine wl (O.eql rfl rfl rfl (by exact beq_iff_eq.2 (by omega))) ?_
 refine wl (O.pickT rfl rfl rfl) ?_
 refine zb ?_
 refine zq ?_
 refine zv ?_
 refine z8 ?_
 refine wl (O.loadR rfl rfl (by rfl)) ?_
 refine yh ?_
 refine wl (O.pickT rfl rfl rfl) ?_
 refine zb ?_
 refine zq ?_
 refine zv ?_
 refine z8 ?_
 refine wl (O.loadR rfl rfl (by rfl)) ?_
 refine yh ?_
 refine wl (O.pickT rfl rfl rfl) ?_
 refine zb ?_
 refine zq ?_
 refine zv ?_
 refine wl (O.eql rfl rfl rfl (by exact beq_iff_eq.2 (by omega))) ?_
 refine wl (O.pickT rfl rfl rfl) ?_
 refine zc (zE (zm (yR ?_)))
 refine yd
end Go.Proofs.YtojomcdjcpmnkaaGreat.By
namespace Go.Proofs.YtojomcdjcpmnkaaGreat.By
open Go.RowKit L A Dk
attribute [local irreducible] AW AQ AO
def s0s (b:Nat)(l:List Int)(n:Nat):AV→List HE→Prop:=fun r H'=> ∃(V:Value) (x:List UInt8) (k':Nat),x.length≤n∧V.oneCell'=true∧k'≤l.length∧r= .val V∧H'= [.row V 5 1 x.length (a0a x),e0E b l k']
theorem c0j (b:Nat)(l:List Int)(k:Nat)(n:Nat)(hl:l.length≤maxLen)(hk:k≤l.length)(hn:n≤1000000):
  Sp Tryz.prog 24 [ptr b,.val (.int .i64 (n:Int))] [e0E b l k] (s0s b l n):=by
 refine yr Tryz.func24 _ Tryz.ntmps24 (fun w0 R0=> ?_)
 refine zB (zr ?_)
 refine zc (zE (zm (zB (zr ?_))))
 refine zc (zE (zm (zB (zB (zr ?_)))))
 refine zb ?_
 refine zb ?_
 refine zA ?_
 refine AO.callMG 0 rfl rfl Tryz.func33 rfl rfl rfl rfl rfl rfl (a0N _ l _ _ hl (by assumption) (by omega) (by omega)) ?_
 rintro _ _ ⟨⟨z1,hz01,hz11,rfl⟩,kd1,hkd1,rfl⟩
 dsimp only[cA,cN,List.eraseIdx]
 refine zc (zE (zm (yT ?_)))
 obtain⟨c,rfl⟩: ∃c:Nat,z1=(c:Int):=⟨z1.toNat,by omega⟩
 refine AW.g ?_
 refine G.nilRow 5 1 ?_
 refine AW.u ?_
 refine AW.loopK [(0,_)] (fun nn E H=> ∃(c':Nat) (out:List UInt8) (V:Value) (kk:Nat),(out.length+c'≤n)∧(V.oneCell'=true)∧(kk≤l.length)∧c'=nn∧E= [(5,.val V),(6,.val (.int .i64 (c':Int)))]∧H= [.row V 5 1 out.length (a0a out),e0E b l kk]) _ (⟨c,[],.slice none 0 0,_,by simp<;>omega,rfl,‹_›,rfl,rfl,rfl⟩) (by repeat(first|exact a0f|refine a0h rfl ?_)) (by repeat(first|exact a0f|refine a0h rfl ?_)) (by repeat(first|exact a0p|refine a0m 0 rfl ?_)) ?_
 rintro nn E H ⟨c',out,V,kk,h1,hV,h3,rfl,rfl,rfl⟩
 dsimp only[cA,cN]
 refine zB (zB (zr ?_))
 refine zb ?_
 refine yw (zE (zm ?_))
 refine yk (fun h=> ?_) (fun h=> ?_)<;>(try simp only[wr]at h)
 ·obtain⟨j,rfl⟩: ∃j,c'=j+1:=⟨c'-1,by omega⟩
  refine yI (zm (zB (yT (zr ?_))))
  refine zb ?_
  refine zb ?_
  refine AO.callMG 1 rfl rfl Tryz.func33 rfl rfl rfl rfl rfl rfl (a0N _ l _ _ hl (by assumption) (by omega) (by omega)) ?_
  rintro _ _ ⟨⟨z2,hz02,hz12,rfl⟩,kd2,hkd2,rfl⟩
  dsimp only[cA,cN,List.eraseIdx]
  refine yQ ?_
  refine zQ ?_
  intro B3
  refine AO.g ?_
  refine z6 0 19 ?_
  refine xz 19 ?_
  refine AO.u ?_
  dsimp only[List.eraseIdx]
  refine zw 1 ?_
  intro V4 hV4
  refine zc (zE (y5 (zm (zr ?_))))
  refine zb ?_
  refine yN ?_
  refine zc (zE ?_)
  rw[show((j+1:Nat):Int)-1=(j:Int) by omega]
  refine AQ.loopKN _ _ _ (by omega) (⟨j,out++[u8 z2],V4,kd2,by simp;omega,hV4,hkd2,rfl,rfl,by rw[a0F,cH]<;>rfl⟩) (by repeat(first|exact a0f|refine a0h rfl ?_)) (by repeat(first|exact a0f|refine a0h rfl ?_)) (by repeat(first|exact a0p|refine a0m 0 rfl ?_|refine a0m 1 rfl ?_))
 refine xx ?_
 refine xp ?_
 refine xu ?_
 refine y2 (zm (zB (zr ?_)))
 refine zb ?_
 refine zc (zE (zm (yR ?_)))
 refine AQ.ret1 rfl rfl ⟨_,by repeat(first|exact List.Sublist.slnil|refine List.Sublist.cons_cons _ ?_),List.Perm.refl _⟩ (⟨V,out,_,by omega,hV,h3,rfl,rfl⟩)
def pivL:List Int:= [0,1,5,255,256,65535,16777216,1099511627775,1099511627774,4294967296]
theorem o0B {z:Int}(h0:0≤z)(h1:z<10){j:Nat}(hj:j=z.toNat*1):([.val (.int .i64 0),.val (.int .i64 1),.val (.int .i64 5),.val (.int .i64 255),.val (.int .i64 256),.val (.int .i64 65535),.val (.int .i64 16777216),.val (.int .i64 1099511627775),.val (.int .i64 1099511627774),.val (.int .i64 4294967296)]:List AV)[j]? =some (.val (.int .i64 (pivL.getD z.toNat 0))):=by
 subst hj
 obtain⟨n,rfl⟩: ∃n:Nat,z=(n:Int):=⟨z.toNat,by omega⟩
 have hn:n<10:=by omega
 have hc:n=0∨n=1∨n=2∨n=3∨n=4∨n=5∨n=6∨n=7∨n=8∨n=9:=by omega
 rcases hc with rfl|rfl|rfl|rfl|rfl|rfl|rfl|rfl|rfl|rfl<;>rfl
theorem o0A {z:Int}(h0:0≤z)(h1:z<10):c0a (pivL.getD z.toNat 0):=by
 have key: ∀n,n<10→c0a (pivL.getD n 0):=by decide
 exact key _ (by omega)
def q0Q (r:AV):Prop:= ∃n:Int,c0a n∧r= .val (.int .i64 n)
theorem g0R (b:Nat)(l:List Int)(k:Nat)(hl:l.length≤maxLen)(hk:k≤l.length):Sp Tryz.prog 14 [ptr b] [e0E b l k] (Gen b l q0Q):=by
 refine yr Tryz.func14 _ Tryz.ntmps14 (fun w0 R0=> ?_)
 refine zB (zr ?_)
 refine zc (zE (zm (zB (zr ?_))))
 refine yF ?_
 intro B1
 refine AO.g ?_
 refine z6 0 3 ?_
 refine xz 3 ?_
 refine AO.u ?_
 dsimp only[List.eraseIdx]
 refine zb ?_
 refine AO.callMG 0 rfl rfl Tryz.func33 rfl rfl rfl rfl rfl rfl (a0N _ l _ _ hl (by assumption) (by omega) (by omega)) ?_
 rintro _ _ ⟨⟨z2,hz02,hz12,rfl⟩,kd2,hkd2,rfl⟩
 dsimp only[cA,cN,List.eraseIdx]
 refine z8 ?_
 refine wl (O.loadR rfl rfl (by exact o0B (by assumption) (by assumption) rfl)) ?_
 refine zc (zE (zm (yR ?_)))
 refine AQ.ret1 rfl rfl ⟨_,by repeat(first|exact List.Sublist.slnil|refine List.Sublist.cons_cons _ ?_),List.Perm.refl _⟩ (⟨⟨_,o0A hz02 hz12,rfl⟩,_,hkd2,rfl⟩)
def q0S (r:AV):Prop:= ∃x,d0k x∧r=p0x x
theorem j0V (b:Nat)(l:List Int)(k:Nat)(hl:l.length≤maxLen)(hk:k≤l.length):Sp Tryz.prog 55 [ptr b,.val (.bool true)] [e0E b l k] (Gen b l q0S):=by
 refine yr Tryz.func55 _ Tryz.ntmps55 (fun w0 R0=> ?_)
 refine zB (zr ?_)
 refine yJ ?_
 intro B1
 refine zE (zm (zB (zr ?_)))
 refine zb ?_
 refine AO.callMG 1 rfl rfl Tryz.func33 rfl rfl rfl rfl rfl rfl (a0N _ l _ _ hl (by assumption) (by omega) (by omega)) ?_
 rintro _ _ ⟨⟨z2,hz02,hz12,rfl⟩,kd2,hkd2,rfl⟩
 dsimp only[cA,cN,List.eraseIdx]
 refine zb ?_
 refine AO.callMG 0 rfl rfl Tryz.func33 rfl rfl rfl rfl rfl rfl (a0N _ l _ _ hl (by assumption) (by omega) (by omega)) ?_
 rintro _ _ ⟨⟨z3,hz03,hz13,rfl⟩,kd3,hkd3,rfl⟩
 dsimp only[cA,cN,List.eraseIdx]
 refine zA ?_
 refine wl (xl rfl Tryz.func107 rfl rfl rfl (m0C _ _ ⟨by omega,by omega⟩)) ?_
 refine zb ?_
 refine AO.callMG 0 rfl rfl Tryz.func24 rfl rfl rfl rfl rfl rfl (c0j _ l _ 8 hl (by assumption) (by omega)) ?_
 rintro _ _ ⟨V4,x4,kd4,hx4,hV4,hkd4,rfl,rfl⟩
 dsimp only[cA,cN,List.eraseIdx]
 refine zb ?_
 refine AO.callMG 1 rfl rfl Tryz.func24 rfl rfl rfl rfl rfl rfl (c0j _ l _ 3 hl (by assumption) (by omega)) ?_
 rintro _ _ ⟨V5,x5,kd5,hx5,hV5,hkd5,rfl,rfl⟩
 dsimp only[cA,cN,List.eraseIdx]
 refine zb ?_
 refine AO.callMG 1 rfl rfl Tryz.func24 rfl rfl rfl rfl rfl rfl (c0j _ l _ 3 hl (by assumption) (by omega)) ?_
 rintro _ _ ⟨V6,x6,kd6,hx6,hV6,hkd6,rfl,rfl⟩
 dsimp only[cA,cN,List.eraseIdx]
 refine wl (O.build rfl rfl (by(show(V4.oneCell'&&(V5.oneCell'&&(V6.oneCell'&&true)))=true;rw[hV4,hV5,hV6];rfl)) (by rfl)) ?_
 refine yJ ?_
 intro B7
 refine AO.store (i:=0) rfl rfl rfl rfl rfl rfl (by(show(true&&(V4.oneCell'&&(true&&(true&&(V5.oneCell'&&(V6.oneCell'&&true))))))=true;rw[hV4,hV5,hV6];rfl)) (by rfl) (by rfl) (by(dsimp only[List.set,List.append,cA,cN,a0w,a0v,a0A,a0c,a0n,AV.cells,List.map,List.map_cons,List.map_nil,List.take,List.drop,Nat.zero_add,Nat.add_zero,Nat.reduceAdd,Nat.reduceMul,Nat.zero_mul,Value.cells,List.toList_toArray,a0o,List.replicate,List.flatten,cP];done)) (by(dsimp only[List.set,List.append,cA,cN,a0w,a0v,a0A,a0c,a0n,AV.cells,List.map,List.map_cons,List.map_nil,List.take,List.drop,Nat.zero_add,Nat.add_zero,Nat.reduceAdd,Nat.reduceMul,Nat.zero_mul,Value.cells,List.toList_toArray,a0o,List.replicate,List.flatten,cP];done)) (zE (zm (zB (zB (zr ?_)))))
 refine zq ?_
 refine AO.g ?_
 refine G.freezeCell 3 0 4 rfl rfl rfl ?_
 dsimp only[List.eraseIdx,List.set]
 refine G.freezeCell 3 0 1 rfl rfl rfl ?_
 dsimp only[List.eraseIdx,List.set]
 refine G.coeCell 0 3 rfl rfl Coe.nil ?_
 dsimp only[List.set]
 refine AO.u ?_
 refine zt ?_
 refine zq ?_
 refine zt ?_
 refine wl (O.callL rfl Tryz.func31 rfl rfl rfl mM (b0n _ _) (by(repeat(first|exact LendL.nil|refine LendL.same ?_|refine LendL.lend ?_));done)) ?_
 refine zE (zm ?_)
 have hse:(j0g z2 (1+z3).toNat).length=(1+z3).toNat:=j0f _ _
 generalize j0g z2 (1+z3).toNat=sec at*
 refine xV [(0,_),(1,_),(4,_),(5,_)] (fun E H=> ∃(V:Value) (rc:List UInt8),(V.oneCell'=true)∧(rc.length≤4)∧(¬x5=rc)∧E= []∧H= [.blk B7 24 6 [roB sec,roB x4,.val (.bool false),roB [],roB x5,.val V],.row V 5 1 rc.length (a0a rc),e0E b l kd6,.blk B1 24 6 [.val (.slice none 0 0),.val (.slice none 0 0),.val (.bool false),.val (.slice none 0 0),.val (.slice none 0 0),.val (.slice none 0 0)]]) (fun heq=> ?_) (fun heq=> ?_) ?_<;>try(try simp only[wr]at heq)
 ·have hgu:a0a (x6++[9])=a0a x6++[.val (.int .u8 9)]:=a0T x6 9
  refine zr ?_
  refine zq ?_
  refine zt ?_
  refine zQ ?_
  intro B8
  refine AO.g ?_
  refine z6 0 26 ?_
  refine xz 26 ?_
  refine AO.u ?_
  dsimp only[List.eraseIdx]
  refine AO.append' (i:=1) rfl rfl rfl rfl (by rfl) (by rfl) rfl rfl rfl (by exact SrcA.ro TyD.ax (by rfl) (lB rfl)) (by rfl) (by(unfold maxLen;omega)) (by omega) (by(dsimp only[List.set,List.append,cA,cN,a0w,a0v,a0A,a0c,a0n,AV.cells,List.map,List.map_cons,List.map_nil,List.take,List.drop,Nat.zero_add,Nat.add_zero,Nat.reduceAdd,Nat.reduceMul,Nat.zero_mul,Value.cells,List.toList_toArray,a0o,List.replicate,List.flatten,cP];done)) (fun _=>by(dsimp only[List.set];done)) ?_
  intro V9 hV9
  refine zq ?_
  refine AO.store (i:=0) rfl rfl rfl rfl rfl rfl (by(simp[AV.cells,AV.one, *];done)) (by rfl) (by rfl) (by(dsimp only[List.set,List.append,cA,cN,a0w,a0v,a0A,a0c,a0n,AV.cells,List.map,List.map_cons,List.map_nil,List.take,List.drop,Nat.zero_add,Nat.add_zero,Nat.reduceAdd,Nat.reduceMul,Nat.zero_mul,Value.cells,List.toList_toArray,a0o,List.replicate,List.flatten,cP];done)) (by(dsimp only[List.set,List.append,cA,cN,a0w,a0v,a0A,a0c,a0n,AV.cells,List.map,List.map_cons,List.map_nil,List.take,List.drop,Nat.zero_add,Nat.add_zero,Nat.reduceAdd,Nat.reduceMul,Nat.zero_mul,Value.cells,List.toList_toArray,a0o,List.replicate,List.flatten,cP];done)) (zE ?_)
  rw[←hgu,show x6.length+1=(x6++[9]).length by simp]
  refine xe _ _ (⟨_,x6++[9],‹_›,by simp;omega,(fun e=>by have:=congrArg List.length e;simp at this;rw[heq]at this;omega),rfl,rfl⟩)
 ·refine yI ?_
  refine xe _ _ (⟨V6,x6,hV6,by omega,heq,rfl,rfl⟩)
 rintro E1 H1 ⟨V,rc,hV,hrl,hne,rfl,rfl⟩
 dsimp only[cA,cN]
 refine zm ?_
 refine AW.g ?_
 refine G.freezeCell 1 0 5 rfl rfl rfl ?_
 refine AW.u ?_
 refine AW.g ?_
 dsimp only[List.eraseIdx,List.set]
 refine AW.u (zB (zB (zr ?_)))
 refine zb ?_
 refine zb ?_
 refine zb ?_
 refine AO.callMGw 1 rfl rfl Tryz.func33 rfl rfl rfl rfl rfl rfl (a0N _ l _ _ hl (by assumption) (by omega) (by omega)) ?_;rintro _ _ ⟨⟨z10,hz010,hz110,rfl⟩,kd10,hkd10,rfl⟩;dsimp only[cA,cN,List.eraseIdx]
 refine yh ?_
 refine wl (O.pickT rfl rfl rfl) (zE (zm ?_))
 refine yk (fun hz=> ?_) (fun hz=> ?_)<;>(try simp only[wr]at hz)
 ·refine zr ?_
  refine zb ?_
  refine AO.callMG 0 rfl rfl Tryz.func24 rfl rfl rfl rfl rfl rfl (c0j _ l _ 5 hl (by assumption) (by omega)) ?_
  rintro _ _ ⟨V11,x11,kd11,hx11,hV11,hkd11,rfl,rfl⟩
  dsimp only[cA,cN,List.eraseIdx]
  refine zq ?_
  refine zK 2 ?_
  refine zq ?_
  refine AO.g ?_
  refine z9 0 [36] ?_
  dsimp only[List.map,List.eraseIdx,cA,cN]
  refine AO.u ?_
  refine zK 1 (zE (zm (zB (zr ?_))))
  refine xt ?_
  refine zK 2 (zE (zm (yR ?_)))
  refine AQ.retCell rfl rfl mM (by rfl) rfl ⟨_,by repeat(first|exact List.Sublist.slnil|refine List.Sublist.cons_cons _ ?_|refine List.Sublist.cons _ ?_),List.Perm.refl _⟩ (⟨⟨⟨sec,x4,true,x11,x5,rc⟩,⟨⟨by show 1≤sec.length;omega,by show sec.length≤64;omega,by show x4.length≤64;omega,by show x11.length≤16;omega,.inl rfl⟩,by show x5.length≤7;omega,by show rc.length≤7;omega,hne⟩,rfl⟩,_,hkd11,rfl⟩)
 refine yI (zm (zB (zr ?_)))
 refine xt ?_
 refine zK 2 (zE (zm (yR ?_)))
 refine AQ.retCell rfl rfl mM (by rfl) rfl ⟨_,by repeat(first|exact List.Sublist.slnil|refine List.Sublist.cons_cons _ ?_|refine List.Sublist.cons _ ?_),List.Perm.refl _⟩ (⟨⟨⟨sec,x4,false,[],x5,rc⟩,⟨⟨by show 1≤sec.length;omega,by show sec.length≤64;omega,by show x4.length≤64;omega,by show([]:List UInt8).length≤16;simp,.inr rfl⟩,by show x5.length≤7;omega,by show rc.length≤7;omega,hne⟩,rfl⟩,_,hkd10,rfl⟩)
def s0q (r:AV):Prop:= ∃c,g0z c∧r=h0Z c
theorem h0h (b:Nat)(l:List Int)(k:Nat)(hl:l.length≤maxLen)(hk:k≤l.length):Sp Tryz.prog 12 [ptr b,.val (.bool true)] [e0E b l k] (Gen b l s0q):=by
 have hder: ∀x,d0k x→Sp Tryz.prog 54 [p0x x] [] (Is (.tup [h0Z (o0b x),.val (.int .i64 0)])):=fun x hx=>by
  have h:=g0o x
  rw[show o0c x=(o0b x,0)from if_pos hx]at h
  exact h
 refine yr Tryz.func12 _ Tryz.ntmps12 (fun w0 R0=> ?_)
 refine zB (zr ?_)
 refine zd ?_
 intro B1
 refine zE (zm (zB (zr ?_)))
 refine zb ?_
 refine zb ?_
 refine AO.callMG 1 rfl rfl Tryz.func55 rfl rfl rfl rfl rfl rfl (j0V _ l _ hl hk) ?_
 rintro _ _ ⟨⟨x2,hx2,rfl⟩,kd2,hkd2,rfl⟩
 dsimp only[cA,cN,List.eraseIdx]
 refine wl (xl rfl Tryz.func54 rfl rfl rfl (hder _ (by assumption))) ?_
 refine zb ?_
 refine zW ?_
 refine zW ?_
 refine zd ?_
 intro B3
 refine za 0 ?_
 refine zc (zE (zm (zB (zr ?_))))
 refine zy ?_
 refine za 2 (zE (zm (yR ?_)))
 refine AQ.retCell rfl rfl mM (by rfl) rfl ⟨_,by repeat(first|exact List.Sublist.slnil|refine List.Sublist.cons_cons _ ?_|refine List.Sublist.cons _ ?_),List.Perm.refl _⟩ (⟨⟨_,n0E hx2,rfl⟩,_,hkd2,rfl⟩)
def AllX (bs:List (List UInt8))(k:Nat):Prop:= ∀i,i<k→(bs.getD i []).length≤900
instance (bs:List (List UInt8))(k:Nat):Decidable (AllX bs k):=by unfold AllX;infer_instance
theorem AllX.succ {bs:List (List UInt8)}{k:Nat}(h:AllX bs k)(h2:(bs.getD k []).length≤900):AllX bs (k+1):=by
 intro i hi
 by_cases e:i=k
 ·subst e;exact h2
 exact h i (by omega)
def p0w (bs:List (List UInt8)):Bool:=decide (AllX bs bs.length∧bs.length≤20)
theorem k0u (bs:List (List UInt8)):Sp Tryz.prog 20 [m0P bs] [] (Is (.val (.bool (p0w bs)))):=by
 refine yr Tryz.func20 _ Tryz.ntmps20 (fun w0 R0=> ?_)
 refine AW.g ?_
 refine G.lenRo (t:=0) rfl (fun hm1=> ?_)
 refine AW.u ?_
 unfold maxLen at hm1
 refine zB (zr ?_)
 refine zc (zE (zm (zB (zB (zr ?_)))))
 refine zb ?_
 refine zR ?_
 refine zb (zE (zm (yT ?_)))
 refine x3 [(0,_),(5,_),(6,_)] (fun nn E H=> ∃(k:Nat),(k≤bs.length)∧(AllX bs k)∧nn=bs.length-k∧E= [(7,.val (.int .i64 (k:Int)))]∧H= []) _ (⟨0,by omega,(fun i hi=>absurd hi (by omega)),rfl,rfl,rfl⟩) ?_
 rintro nn E H ⟨k,h1,hA,rfl,rfl,rfl⟩
 dsimp only[cA,cN]
 refine zB (zr ?_)
 refine zN (zE (zm (zB ?_)))
 refine yk (fun h=> ?_) (fun h=> ?_)<;>(try simp only[wr]at h)
 ·have hk:k<bs.length:=by omega
  refine yI (zm (zB (yT (zB (zr ?_)))))
  refine z8 ?_
  refine wl (O.loadR rfl rfl (by exact e0o (by assumption) (by omega))) ?_
  refine zc (zE (zm (zB (zr ?_))))
  refine zb ?_
  refine wl (xl rfl Tryz.func53 rfl rfl rfl (d0C _)) ?_
  refine xf (zE (zm ?_))
  refine yk (fun h2=> ?_) (fun h2=> ?_)<;>(try simp only[wr]at h2)
  ·have e:p0w bs=false:=decide_eq_false (fun hh=>by have h4:(vat bs k).length≤900:=hh.1 k hk;omega)
   refine zB (zr ?_)
   refine zc (zE (zm (yR ?_)))
   refine xN (y0 ?_)
   refine AQ.loopR ?_
   refine xN (y0 ?_)
   refine AQ.ret1 rfl rfl nS (⟨by rw[e];rfl,rfl⟩)
  have hA2:=hA.succ (show(vat bs k).length≤900 by omega)
  refine yI (y5 (zm (zr ?_)))
  refine zA ?_
  refine zb (zE ?_)
  refine xJ _ _ _ (by omega) (⟨k+1,by omega,hA2,rfl,rfl,rfl⟩)
 obtain rfl:k=bs.length:=by omega
 refine xx ?_
 refine xp ?_
 refine xu ?_
 refine y2 (zm (zB (zr ?_)))
 refine zb ?_
 refine zR ?_
 refine wl xF ?_
 refine zc (zE (zm (yR ?_)))
 refine AQ.ret1 rfl rfl nS (⟨by rw[p0w];simp[hA];omega,rfl⟩)
def m0b (c:Cx):Bool:=p0w [c.inp.sec,c.inp.salt,c.inp.ctx,c.inp.snd,c.inp.rcp,c.sk,c.rk,c.com]
theorem i0t (c:Cx):Sp Tryz.prog 8 [h0Z c] [] (Is (.val (.bool (m0b c)))):=by
 have hall:Sp Tryz.prog 20 [.ro false 8 [roB c.inp.sec,roB c.inp.salt,roB c.inp.ctx,roB c.inp.snd,roB c.inp.rcp,roB c.sk,roB c.rk,roB c.com]] [] (Is (.val (.bool (m0b c)))):=k0u [c.inp.sec,c.inp.salt,c.inp.ctx,c.inp.snd,c.inp.rcp,c.sk,c.rk,c.com]
 refine yr Tryz.func8 _ Tryz.ntmps8 (fun w0 R0=> ?_)
 refine zB (zr ?_)
 refine ya ?_
 intro B1
 refine zc (zE (zm (zB (zr ?_))))
 refine zq ?_
 refine zq ?_
 refine zt ?_
 refine zq ?_
 refine zq ?_
 refine zt ?_
 refine zq ?_
 refine zq ?_
 refine zt ?_
 refine zq ?_
 refine zq ?_
 refine zt ?_
 refine zq ?_
 refine zq ?_
 refine zt ?_
 refine zq ?_
 refine zt ?_
 refine zq ?_
 refine zt ?_
 refine zq ?_
 refine zt ?_
 refine yF ?_
 intro B2
 refine AO.g ?_
 refine z6 0 24 ?_
 refine xz 24 ?_
 refine AO.u ?_
 dsimp only[List.eraseIdx]
 refine wl (xl rfl Tryz.func20 rfl rfl rfl hall) ?_
 refine zc (zE (zm (yR ?_)))
 refine yd
def m0l (c:Cx):List AV:=cX c
theorem i0J (c:Cx):(m0l c).length=9:=rfl
def q0E (l:List Cx):List AV:=l.flatMap m0l
def r0v (l:List Cx):AV:= .ro false l.length (q0E l)
abbrev r0o (l:List Cx)(k:Nat):Cx:=l.getD k Cx.none
theorem q0v {l:List Cx}{k:Nat}(h:k<l.length){j:Nat}(hj:j=k):((q0E l).drop (j*9)).take 9=cX (r0o l k):=f0D i0J Cx.none h hj
end Go.Proofs.YtojomcdjcpmnkaaGreat.By
namespace Go.Proofs.YtojomcdjcpmnkaaGreat.By
open Go.RowKit L A
attribute [local irreducible] AW AQ AO
abbrev k0y (c:Cx)(b:Bd)(piv:Int):Prop:=g0z c∧(piv= -1∨c0a piv)∧c0a b.piv∧b.kid.length≤7
def k0F (c:Cx)(b:Bd)(piv:Int):List UInt8×List UInt8:=if k0y c b piv then(c.sk,b0W c b c.inp.snd piv)else([],[])
abbrev q0Y (r:List UInt8×List UInt8):AV:= .tup [roB r.1,roB r.2]
theorem i0Z {c:Cx}{b:Bd}{piv:Int}(h: ¬k0y c b piv):k0F c b piv=([],[]):=if_neg h
theorem i0Y {c:Cx}{b:Bd}{piv:Int}(h:k0y c b piv):k0F c b piv=(c.sk,b0W c b c.inp.snd piv):=if_pos h
theorem k0o {c:Cx}{b:Bd}{id:List UInt8}{piv:Int}(h:piv= -1):b0W c b id piv=(a0V c.com b.kid b.piv).1:=if_pos h
theorem k0n {c:Cx}{b:Bd}{id:List UInt8}{piv:Int}(h:piv≠ -1):b0W c b id piv=(a0V c.com id piv).1:=if_neg h
theorem l0e (c:Cx)(b:Bd)(piv:Int):Sp Tryz.prog 29 [h0Z c,i0P b,.val (.int .i64 piv)] [] (Is (q0Y (k0F c b piv))):=by
 refine yr Tryz.func29 _ Tryz.ntmps29 (fun w0 R0=> ?_)
 refine zB (zr ?_)
 refine ya ?_
 intro B1
 refine ya ?_
 intro B2
 refine zc ?_
 refine zc (zE (zm (zB (zB (zr ?_)))))
 refine zD ?_
 refine wl (xl rfl Tryz.func27 rfl rfl rfl (c0G c)) ?_
 refine xf ?_
 refine zb ?_
 refine yl ?_
 refine AO.opG rfl rfl rfl (fun hp=>wo 12 rfl (by exact hp) xb) ?_
 refine xA 13 ?_
 refine yl ?_
 refine AO.opG rfl rfl rfl (fun hp=>wo 15 rfl (by exact hp) (xl rfl Tryz.func58 rfl rfl rfl (g0U _))) ?_
 refine y3 16 ?_
 refine xS 14 ?_
 refine zF ?_
 refine zb ?_
 refine zJ ?_
 refine zl 21 ?_
 refine AO.opG rfl rfl rfl (fun hp=>wo 22 rfl (by exact hp) (xl rfl Tryz.func58 rfl rfl rfl (g0U _))) ?_
 refine y3 23 ?_
 refine zF ?_
 refine zb ?_
 refine zJ ?_
 refine zl 27 ?_
 refine zX 28 ?_
 refine yb 29 ?_
 refine zF (zE (zm ?_))
 refine yk (fun h1=> ?_) (fun h1=> ?_)<;>(try simp only[wr]at h1)
 ·rw[i0Z (fun g=>by
   obtain⟨g1,g2,g3,g4⟩:=g
   rcases h1 with((h|⟨h,h'⟩)|h)|h
   ·exact h g1
   ·exact g2.elim (fun g=>h g) (fun g=>h' g)
   ·exact h g3
   omega)]
  refine zB (zr ?_)
  refine zc ?_
  refine zc (zE (zm (yR (y0 ?_))))
  refine wg yU (Coe.tup (by(repeat(first|exact CoeL.nil|refine CoeL.cons Coe.nil ?_));done)) (⟨rfl,rfl⟩)
 have hok:k0y c b piv:=by
  obtain⟨⟨⟨g1,g2⟩,g3⟩,g4⟩:=h1
  refine⟨g1,?_,g3,by omega⟩
  by_cases e:piv= -1
  ·exact .inl e
  exact .inr (g2 e)
 rw[i0Y hok]
 obtain⟨⟨-,k9,k10,k11⟩, -⟩:=hok
 refine yI (zm (zB ?_))
 refine yv 13 ?_
 simp only[cT,cZ,cD,cO]
 refine yC ?_
 refine zY ?_
 refine wm (xl rfl Tryz.func62 rfl rfl rfl (c0Y _ (by omega))) ?_
 refine wm zp ?_
 refine xM ?_
 refine yC ?_
 refine yC ?_
 refine zY ?_
 refine wm (xl rfl Tryz.func78 rfl rfl rfl (k0m c b c.inp.snd)) ?_
 refine zG ?_
 refine wm (O.callV rfl rfl Tryz.func131 rfl rfl rfl (i0H c b c.inp.snd piv (by omega))) ?_
 refine we ?_
 refine we ?_
 refine wh ?_
 simp only[a0l,cN,cA,cP]
 refine zE (zm (yR ?_))
 refine yP
theorem g0f {c id:List UInt8}{piv:Int}(h1:c.length=13)(h2:id.length≤7)(h3:c0a piv):(a0V c id piv).2=0:=by
 rw[f0x (by omega) (by omega)]
theorem k0P (c:Cx)(b:Bd)(piv:Int):Sp Tryz.prog 30 [h0Z c,i0P b,.val (.int .i64 piv)] [] (Is (q0Y (k0F c b piv))):=by
 refine yr Tryz.func30 _ Tryz.ntmps30 (fun w0 R0=> ?_)
 refine zB (zr ?_)
 refine ya ?_
 intro B1
 refine ya ?_
 intro B2
 refine zc ?_
 refine zc (zE (zm (zB (zB (zr ?_)))))
 refine zD ?_
 refine wl (xl rfl Tryz.func28 rfl rfl rfl (c0V c)) ?_
 refine xf ?_
 refine zb ?_
 refine zJ ?_
 refine zl 14 ?_
 refine AO.opG rfl rfl rfl (fun hp=>wo 15 rfl (by exact hp) (xl rfl Tryz.func64 rfl rfl rfl (m0R _))) ?_
 refine zF ?_
 refine zb ?_
 refine yl ?_
 refine AO.opG rfl rfl rfl (fun hp=>wo 19 rfl (by exact hp) yj) ?_
 refine zF ?_
 refine zb ?_
 refine yl ?_
 refine yb 23 ?_
 refine zF ?_
 refine zb ?_
 refine zJ ?_
 refine zl 27 ?_
 refine zX 28 ?_
 refine yb 29 ?_
 refine zF (zE (zm ?_))
 refine yk (fun h1=> ?_) (fun h1=> ?_)<;>(try simp only[wr]at h1)
 ·rw[i0Z (fun g=>by
   obtain⟨g1,g2,g3,g4⟩:=g
   rcases h1 with(((h|h)|h)|h)|h
   ·exact h g1
   ·exact h g3
   ·omega
   ·omega
   omega)]
  refine zB (zr ?_)
  refine zc ?_
  refine zc (zE (zm (yR (y0 ?_))))
  refine wg yU (Coe.tup (by(repeat(first|exact CoeL.nil|refine CoeL.cons Coe.nil ?_));done)) (⟨rfl,rfl⟩)
 have hok:k0y c b piv:=by
  obtain⟨⟨⟨⟨g1,g2⟩,g3⟩,g4⟩,g5⟩:=h1
  exact⟨g1,by omega,(by exact g2),by omega⟩
 rw[i0Y hok]
 obtain⟨⟨⟨-,k6,k7,k8⟩,k9,k10,k11⟩,m1,m2,m3⟩:=hok
 have n1:(a0V c.com b.kid b.piv).2=0:=g0f k11 m3 m2
 refine yI (zm (zB (zr ?_)))
 refine zq ?_
 refine zv ?_
 refine zq ?_
 refine zt ?_
 refine zq ?_
 refine zt ?_
 refine wl (xl rfl Tryz.func66 rfl rfl rfl (f0Y _ _ _ (by omega))) ?_
 refine zb ?_
 refine zW ?_
 refine zW ?_
 refine zc ?_
 refine zc (zE (zm (zB (zB (zr ?_)))))
 refine zb ?_
 refine xY (zE (zm ?_))
 refine yk (fun h2=> ?_) (fun h2=> ?_)<;>(try simp only[wr]at h2)
 ·have n2:(a0V c.com c.inp.snd piv).2=0:=g0f k11 k6 (by omega)
  rw[k0n (by omega)]
  refine zr ?_
  refine zq ?_
  refine zv ?_
  refine zq ?_
  refine zq ?_
  refine zv ?_
  refine zb ?_
  refine wl (xl rfl Tryz.func66 rfl rfl rfl (f0Y _ _ _ (by omega))) ?_
  refine zb ?_
  refine zW ?_
  refine zW ?_
  refine zc ?_
  refine zc (zE (zm (zB (zB (zr ?_)))))
  refine zb ?_
  refine wl (O.neq rfl rfl rfl (by exact bne_eq_false_iff_eq.2 (by omega))) (zE (zm ?_))
  refine yk (fun h3=> ?_) (fun h3=> ?_)<;>(try simp only[wr]at h3)
  ·exact absurd h3 (by simp)
  refine yI (zm (zB (zr ?_)))
  refine zq ?_
  refine zv ?_
  refine wl (xl rfl Tryz.func69 rfl rfl rfl (a0K _ (by omega))) ?_
  refine zb ?_
  refine zc ?_
  refine zc (zE (zm (yR ?_)))
  refine yP
 rw[k0o (by omega)]
 refine yI (zm (zB (zB (zr ?_))))
 refine zb ?_
 refine wl (O.neq rfl rfl rfl (by exact bne_eq_false_iff_eq.2 (by omega))) (zE (zm ?_))
 refine yk (fun h3=> ?_) (fun h3=> ?_)<;>(try simp only[wr]at h3)
 ·exact absurd h3 (by simp)
 refine yI (zm (zB (zr ?_)))
 refine zq ?_
 refine zv ?_
 refine wl (xl rfl Tryz.func69 rfl rfl rfl (a0K _ (by omega))) ?_
 refine zb ?_
 refine zc ?_
 refine zc (zE (zm (yR ?_)))
 refine yP
def q0h (os:List Opt)(n:Int):Nat→Nat
 |0=>0
 |i+1=>if n<(oat os i).num then q0h os n i else i+1
def r0H (os:List Opt)(o:Opt):List Opt:=os.take (q0h os o.num os.length)++([o]++os.drop (q0h os o.num os.length))
def o0X (l:List Opt):List Opt:=l.foldl r0H []
def jo (o:Opt):Bool:=decide (cls o.num=2)&&decide (o.num≠9)
def r0D (os:List Opt):List Opt:=os.filter jo
def s0k (os:List Opt):Bool:=os.any fun o=>decide (cls o.num=2)
def q0s (outer inner:Msg):Msg×Int:=
 if rq inner.code=true∨rs inner.code=true then
  (if rq inner.code=rq outer.code∧rs inner.code=rs outer.code then
   (if s0k inner.opts=true then(Msg.none,4)else(⟨outer.ty,inner.code,outer.id,outer.tok,o0X (inner.opts++r0D outer.opts),inner.pay⟩,0))
  else(Msg.none,18))
 else(Msg.none,1)
end Go.Proofs.YtojomcdjcpmnkaaGreat.By
namespace Go.Proofs.YtojomcdjcpmnkaaGreat.By
open Go.RowKit L A
attribute [local irreducible] AW AQ AO
attribute [local simp] a0b
end Go.Proofs.YtojomcdjcpmnkaaGreat.By
namespace Go.Proofs.YtojomcdjcpmnkaaGreat.By
open Go.RowKit L A Dk
end Go.Proofs.YtojomcdjcpmnkaaGreat.By
namespace Go.Proofs.YtojomcdjcpmnkaaGreat.By
open Go.RowKit L A
attribute [local irreducible] AW AQ AO
noncomputable def r0t (m:Msg)(p:List UInt8)(q:Bool):Msg×Int:=
 if(f0i p).2≠0 then(Msg.none,(f0i p).2)else if q≠rq (f0i p).1.code then(Msg.none,4)else q0s m (f0i p).1
noncomputable def o0L (key:List UInt8)(m:Msg)(nonce aad:List UInt8)(q:Bool):Msg×Int:=
 if q0n key nonce aad m.pay 8≠0 then(Msg.none,11)else r0t m (q0m key nonce aad m.pay 8) q
theorem o0o {m:Msg}(h:SmS m):SmO m:=⟨by have:=h.2.2.1;omega,fun o ho=>by have:=h.2.2.2 o ho;omega⟩
end Go.Proofs.YtojomcdjcpmnkaaGreat.By
namespace Go.Proofs.YtojomcdjcpmnkaaGreat.W
open Go.RowKit
def q0p (n:Int):Nat:=if 64≤n then 2^64-1 else 2^n.toNat-1
def o0N (s t:Int)(b:Nat):Bool:=(List.range 64).all fun i=> !b.testBit i||(decide ((i:Int)<s)&&decide ((i:Int)≤t))
def l0N (s t:Int)(b:Nat)(l:Bool):Bool:=
  decide (1≤s∧s≤64∧ -1≤t∧t≤1099511627775)&&
    (if l then decide (b=0)&&decide (t= -1)
     else o0N s t b&&(decide (t= -1)||b.testBit 0))
end Go.Proofs.YtojomcdjcpmnkaaGreat.W
namespace Go.Proofs.YtojomcdjcpmnkaaGreat.W
open Go.RowKit L
def p0b (n:Int):Prop:= -9223372036854775808≤n∧n≤9223372036854775807
def o0u (s t:Int)(b:Nat)(l:Bool)(n:Int):Bool:=l0N s t b l&&(decide (0≤n)&&decide (n≤1099511627775))
def p0p (s t:Int)(b:Nat)(l:Bool)(n:Int):Int:=
 if o0u s t b l n=false then 1 else if l then 34 else if n≤t-s∨(n≤t∧b.testBit (t-n).toNat=true)then 33 else 0
def q0N (s:Int)(b k:Nat):Nat:=((b*2^k%2^64)&&&q0p s)|||1
def q0M (b k:Nat):Nat:=b|||2^k
def s0m (t n:Int):Int:=if t<n then n else t
def s0n (s t:Int)(b:Nat)(n:Int):Nat:=if t<n then q0N s b (n-t).toNat else q0M b (t-n).toNat
end Go.Proofs.YtojomcdjcpmnkaaGreat.W
namespace Go.Proofs.YtojomcdjcpmnkaaGreat.L
open Go.RowKit
def e0G (Q:Act→World→Prop):Exit→Act→World→Prop
 | .normal,a,w=>Q a w
 |_,_,_=>False
@[go_sem] theorem l0X (Q:Act→World→Prop) (a:Act) (w:World):e0G Q .normal a w=Q a w:=rfl
@[go_sem] theorem n0n (Q:Act→World→Prop) (c:List PanicEntry) (a:Act) (w:World):e0G Q (.panic c) a w=False:=rfl
def b0a (P:Program)(ops:Array Oper)(w0:World)(wv:Nat→Bool)(Q:Act→World→Prop):Nat→Array Bool→Act→World→Prop
 |0,listed,a,w=>Region.ready .any ops listed= []∧Q a w
 |fuel+1,listed,a,w=>(Region.ready .any ops listed= []→Q a w)∧
  ∀i∈Region.ready .any ops listed,wpOp P ops (e0G Q) i (fun a' w'=>(wv i=false→Ext w0 w')∧b0a P ops w0 wv Q fuel (listed.setIfInBounds i true) a' w') a w
section
variable {P:Program}{ops:Array Oper}{Q:Act→World→Prop}{w0:World}{wv:Nat→Bool}
def b0v (o:Oper)(j:Nat):Bool:=o.after.any fun e=>Region.binds .any e&&e.on==j
theorem b0t {o:Oper}{j:Nat}(h:b0v o j=true): ∃x∈o.after,Region.binds .any x=true∧x.on=j:=by
 obtain⟨x,hx,hx2⟩:=e0t h
 simp only[Bool.and_eq_true,beq_iff_eq]at hx2
 exact⟨x,hx,hx2.1,hx2.2⟩
def f0j (ops:Array Oper)(listed:Array Bool)(wv:Nat→Bool)(E before:List Nat)(size i:Nat):Bool:=
 (ops[i]?).any fun o=>c0W o&& !listed.getD i true&&(match o.dst with
  | some d=>decide (d<size)&& !(o.looksAt ops).contains d&&
   (o.after.all fun e=> !Region.binds .any e||listed.getD e.on false||before.contains e.on)&&
   (List.range ops.size).all fun j=>j==i||listed.getD j true||(ops[j]?).all fun oj=>
    oj.dst !=some d&&(match oj.dst with|some dj=> !(o.looksAt ops).contains dj||(before.contains j&&b0v o j)|none=>true)&&
    (E.contains j||((!(oj.looksAt ops).contains d||b0v oj i)&&(!wv j||b0v oj i)))
  |none=>false)
def c0p (ops:Array Oper)(listed:Array Bool)(wv:Nat→Bool)(E:List Nat)(size:Nat):List Nat→List Nat→Bool
 |_,[]=>true
 |before,i::rest=>f0j ops listed wv E before size i&& !before.contains i&&c0p ops listed wv E size (before++[i]) rest
def b0k (ops:Array Oper)(i:Nat):Tmp:=((ops[i]?).bind (·.dst)).getD 0
structure Took (ops:Array Oper) (listed:Array Bool) (wv:Nat→Bool) (E:List Nat) (size i:Nat):Prop where
 ex: ∃o,ops[i]? =some o∧c0W o=true∧o.dst=some (b0k ops i)∧b0k ops i∉o.looksAt ops
 free:listed.getD i true=false
 lt:b0k ops i<size
 own: ∀j oj,ops[j]? =some oj→j≠i→listed.getD j true=false→oj.dst≠some (b0k ops i)
 looks: ∀o j oj dj,ops[i]? =some o→ops[j]? =some oj→j≠i→listed.getD j true=false→oj.dst=some dj→dj∈o.looksAt ops→j∈E∧b0v o j=true
 read: ∀j oj,ops[j]? =some oj→j≠i→listed.getD j true=false→j∉E→(b0k ops i∈oj.looksAt ops→b0v oj i=true)∧(wv j=true→b0v oj i=true)
theorem b0E {listed:Array Bool}{E before:List Nat}{size i:Nat}(h:f0j ops listed wv E before size i=true)(hb: ∀j∈before,j∈E):
  Took ops listed wv E size i∧ ∀o,ops[i]? =some o→ ∀e∈o.after,Region.binds .any e=true→listed.getD e.on false=true∨e.on∈before:=by
 unfold f0j at h
 cases ho:ops[i]?with
 |none=>rw[ho]at h;cases h
 |some o=>
 rw[ho]at h
 simp only[Option.any_some]at h
 simp only[Bool.and_eq_true,Bool.not_eq_true']at h
 obtain⟨⟨hpl,hfr⟩,h⟩:=h
 split at h
 ·rename_i d hd
  simp only[Bool.and_eq_true,cQ,Bool.not_eq_true',List.contains_eq_mem,decide_eq_false_iff_not,List.all_eq_true,List.mem_range]at h
  obtain⟨⟨⟨hlt,hself⟩,hback⟩,hall⟩:=h
  have hdi:b0k ops i=d:=by simp[b0k,ho,hd]
  have pair: ∀j oj,ops[j]? =some oj→j≠i→listed.getD j true=false→
    oj.dst≠some d∧(∀dj,oj.dst=some dj→dj∈o.looksAt ops→j∈before∧b0v o j=true)∧(j∉E→(d∈oj.looksAt ops→b0v oj i=true)∧(wv j=true→b0v oj i=true)):=by
   intro j oj hoj hji hlj
   have hjs:j<ops.size:=(Array.getElem?_eq_some_iff.1 hoj).1
   have:=hall j hjs
   simp only[hoj,hlj,Option.all_some,Bool.or_eq_true,beq_iff_eq,hji,false_or,Bool.and_eq_true,bne_iff_ne,ne_eq,cF,or_false,cQ,Bool.not_eq_true',decide_eq_false_iff_not]at this
   obtain⟨⟨h1,h2⟩,h3⟩:=this
   refine⟨h1,fun dj hdj hm=> ?_,fun hjE=> ?_⟩
   ·rw[hdj]at h2
    simp only[Bool.or_eq_true,Bool.and_eq_true,Bool.not_eq_true',decide_eq_false_iff_not,cQ]at h2
    exact h2.resolve_left fun hn=>hn hm
   ·have h4:=h3.resolve_left hjE
    refine⟨fun hm=>h4.1.resolve_left fun hn=>hn hm,fun hw=>h4.2.resolve_left fun hn=>by rw[hw]at hn;cases hn⟩
  refine⟨⟨⟨o,ho,hpl,by rw[hdi];exact hd,by rw[hdi];exact hself⟩,hfr,by rw[hdi];exact hlt,fun j oj hoj hji hlj=>by rw[hdi];exact(pair j oj hoj hji hlj).1,?_,?_⟩,?_⟩
  ·intro o' j oj dj ho' hoj hji hlj hdj hm
   obtain rfl:o=o':=by rw[ho]at ho';exact Option.some.inj ho'
   have:=(pair j oj hoj hji hlj).2.1 dj hdj hm
   exact⟨hb j this.1,this.2⟩
  ·intro j oj hoj hji hlj hjE
   rw[hdi];exact(pair j oj hoj hji hlj).2.2 hjE
  ·intro o' ho' e he hbe
   obtain rfl:o=o':=Option.some.inj ho'
   have:=Array.all_eq_true_iff_forall_mem.1 hback e he
   simp only[hbe,Bool.not_true,Bool.false_or,Bool.or_eq_true,cQ]at this
   simpa using this
 ·cases h
theorem b0U {listed:Array Bool}{E:List Nat}{size k:Nat}: ∀(l2 b2:List Nat),c0p ops listed wv E size b2 l2=true→k∈b2→k∉l2:=by
 intro l2
 induction l2 with
 |nil=>intro b2 _ _ hm;cases hm
 |cons x l2 ih2=>
  intro b2 hk hb hm
  simp only[c0p,Bool.and_eq_true,Bool.not_eq_true',List.contains_eq_mem,decide_eq_false_iff_not]at hk
  rcases List.mem_cons.1 hm with e|hm
  ·exact hk.1.2 (e▸hb)
  ·exact ih2 _ hk.2 (List.mem_append_left _ hb) hm
theorem d0n {o:Oper}{A B:Act}(hsz:A.tmps.size=B.tmps.size)(hag: ∀t∈o.looksAt ops,A.eval (.tmp t)=B.eval (.tmp t)):
  Region.wanted o (yielded ops A.tmps)=Region.wanted o (yielded ops B.tmps):=by
 unfold Region.wanted
 cases hg:o.guard with
 |none=>rfl
 | some gw=>
  obtain⟨g,want⟩:=gw
  have hy:yielded ops A.tmps g=yielded ops B.tmps g:=by
   unfold yielded
   cases ht:(ops[g]?).bind (·.dst)with
   |none=>rfl
   | some t=>
    have he:=hag t (List.mem_append_right _ (by simp[hg,ht]))
    by_cases hts:t<A.tmps.size
    ·have hts':t<B.tmps.size:=by rw[←hsz];exact hts
     simp[Act.eval,Array.getD,hts,hts']at he
     simp[hts,hts',he]
    ·have hts': ¬t<B.tmps.size:=by rw[←hsz];exact hts
     simp[hts,hts']
  simp only[hy]
theorem i0C {o:Oper}{A B:Act}(hns: ∀cs b,o.op≠ .select cs b)(hag: ∀t∈o.looksAt ops,A.eval (.tmp t)=B.eval (.tmp t)):execOp A.eval o=execOp B.eval o:=
 execOp_congr o hns fun x hx=>by
  cases x with
  |tmp t=>exact hag t (List.mem_append_left _ (List.mem_filterMap.2 ⟨.tmp t,by simpa using hx,rfl⟩))
  |_=>rfl
theorem i0o {listed:Array Bool}{E:List Nat}{C:World→Prop}{Q':Act→Prop}: ∀(is before:List Nat) (l:List Oper) (a:Act),c0p ops listed wv E a.tmps.size before is=true→(∀j∈before++is,j∈E)→
  is.map (fun i=>ops[i]?)=l.map some→wpQuiet P ops C Q' l a→
  ∃a1:Act,Q' a1∧a1.tmps.size=a.tmps.size∧a1.defers=a.defers∧(∀t,(∀i∈is,b0k ops i≠t)→a1.eval (.tmp t)=a.eval (.tmp t))∧
   (∀i∈is,Took ops listed wv E a.tmps.size i)∧(∀i∈is,∀o,ops[i]? =some o→YieldsIn P ops C o (a1.eval (.tmp (b0k ops i))) a1):=by
 intro is
 induction is with
 |nil=>
  intro before l a _ _ hl h
  cases l with
  |nil=>exact⟨a,h,rfl,rfl,fun _ _=>rfl,fun i hi=>(by cases hi),fun i hi=>(by cases hi)⟩
  |cons o l=>simp at hl
 | cons i is ih=>
  intro before l a hok hsub hl h
  cases l with
  |nil=>simp at hl
  | cons o l=>
   simp only[List.map_cons,List.cons.injEq]at hl
   obtain⟨ho,hl⟩:=hl
   simp only[c0p,Bool.and_eq_true]at hok
   obtain⟨⟨hat,hnb⟩,hok⟩:=hok
   obtain⟨hT,_⟩:=b0E hat fun j hj=>hsub j (List.mem_append_left _ hj)
   obtain⟨o',ho',hpl,hd,hself⟩:=hT.ex
   obtain rfl:o=o':=by rw[ho]at ho';exact Option.some.inj ho'
   have hstep: ∃v,YieldsIn P ops C o v a∧wpQuiet P ops C Q' l (a.put o.dst v):=by
    unfold wpQuiet at h
    split at h
    ·rename_i hw
     obtain⟨v,h1,h2⟩:=h
     exact⟨v,.inl ⟨hw,h1⟩,h2⟩
    ·rename_i hw
     exact⟨undef,.inr ⟨by simpa using hw,rfl⟩,h⟩
   obtain⟨v,hy,hq⟩:=hstep
   rw[hd]at hq
   have hsz:(a.put (some (b0k ops i)) v).tmps.size=a.tmps.size:=by simp[Act.put]
   obtain⟨a1,hQ,h1,h2,h3,h4,h5⟩:=ih (before++[i]) l _ (by rw[hsz];exact hok) (fun j hj=>hsub j (by simpa using hj)) hl hq
   rw[hsz]at h1 h4
   have hne: ∀j∈is,b0k ops j≠b0k ops i:=fun j hj e=>by
    have hTj:=h4 j hj
    obtain⟨oj,hoj,_,hdj,_⟩:=hTj.ex
    by_cases hji:i=j
    ·
     subst hji
     exact b0U is (before++[i]) hok (by simp) hj
    ·exact hTj.own i o ho hji hT.free (by rw[hd,e])
   refine⟨a1,hQ,h1,by rw[h2];simp[Act.put],?_,?_,?_⟩
   ·intro t ht
    rw[h3 t fun j hj=>ht j (List.mem_cons_of_mem _ hj),a0k (ht i (List.mem_cons_self ..))]
   ·intro j hj
    rcases List.mem_cons.1 hj with rfl|hj
    ·exact hT
    ·exact h4 j hj
   ·intro j hj oj hoj
    rcases List.mem_cons.1 hj with rfl|hj
    ·obtain rfl:o=oj:=by rw[ho]at hoj;exact Option.some.inj hoj
     have hv:a1.eval (.tmp (b0k ops j))=v:=by rw[h3 _ hne,a0z hT.lt]
     rw[hv]
     have hag: ∀t∈o.looksAt ops,a1.eval (.tmp t)=a.eval (.tmp t):=fun t ht=>by
      have hjt:b0k ops j≠t:=fun e=>hself (by rw[e];exact ht)
      have hkt: ∀k∈is,b0k ops k≠t:=fun k hk e=>by
       have hTk:=h4 k hk
       obtain⟨ok,hok',_,hdk,_⟩:=hTk.ex
       by_cases hkj:k=j
       ·subst hkj;exact hjt e
       ·have:=hT.looks o k ok _ ho hok' hkj hTk.free hdk (by rw[e];exact ht)
        obtain⟨x,hx,hxb,hxo⟩:=b0t this.2
        have hb2:=(b0E hat fun j hj=>hsub j (List.mem_append_left _ hj)).2 o ho x hx hxb
        rw[hxo]at hb2
        rcases hb2 with hb2|hb2
        ·have hf:=hTk.free
         by_cases hks:k<listed.size
         ·rw[b0h hks,hb2]at hf;cases hf
         ·simp[Array.getD,hks]at hf
        ·exact b0U is (before++[j]) hok (List.mem_append_left _ hb2) hk
      rw[h3 t hkt,a0k hjt]
     refine hy.of_same (execOp_congr o ?_ fun x hx=> ?_) ?_
     ·intro cs b e;simp[c0W,e]at hpl
     ·cases x with
      |tmp t=>exact hag t (List.mem_append_left _ (List.mem_filterMap.2 ⟨.tmp t,by simpa using hx,rfl⟩))
      |_=>rfl
     ·exact d0n h1 hag
    ·exact h5 j hj oj hoj
theorem h0L {listed:Array Bool}{i:Nat}(h:listed.getD i true=false):i<listed.size∧listed.getD i false=false:=by
 by_cases hs:i<listed.size
 ·exact⟨hs,by rw[←b0h hs];exact h⟩
 ·simp[Array.getD,hs]at h
theorem d0s {listed:Array Bool}{i:Nat}(hs:i<listed.size)(h:listed.getD i false=false):listed.getD i true=false:=by rw[b0h hs];exact h
theorem f0V {listed:Array Bool}{E:List Nat}{size:Nat}: ∀(l1 before:List Nat) (i:Nat) (l2:List Nat),c0p ops listed wv E size before (l1++i::l2)=true→(∀j∈before++(l1++i::l2),j∈E)→
  ∀o,ops[i]? =some o→ ∀e∈o.after,Region.binds .any e=true→listed.getD e.on false=true∨e.on∈before++l1:=by
 intro l1
 induction l1 with
 |nil=>
  intro before i l2 h hsub
  simp only[cN,c0p,Bool.and_eq_true]at h
  have:=(b0E h.1.1 fun j hj=>hsub j (List.mem_append_left _ hj)).2
  simpa using this
 |cons x l1 ih=>
  intro before i l2 h hsub
  simp only[cA,c0p,Bool.and_eq_true]at h
  have:=ih (before++[x]) i l2 h.2 (fun j hj=>hsub j (by simpa using hj))
  simpa using this
structure GInv (P:Program) (ops:Array Oper) (w0:World) (wv:Nat→Bool) (E:List Nat) (listed0 listed:Array Bool) (A:Act) (W:World) (listedB:Array Bool) (B:Act):Prop where
 s1:listed.size=ops.size
 s2:listedB.size=ops.size
 mono: ∀i,listed0.getD i false=true→listed.getD i false=true
 both: ∀i,i<ops.size→listedB.getD i false=(listed.getD i false||decide (i∈E))
 tmps:A.tmps.size=B.tmps.size
 defers:A.defers=B.defers
 same: ∀t,(∀i∈E,listed.getD i false=false→b0k ops i≠t)→A.eval (.tmp t)=B.eval (.tmp t)
 pend: ∀i∈E,listed.getD i false=false→ ∀o,ops[i]? =some o→YieldsIn P ops (fun w=> ∃x:SW w0,w=x.w) o (B.eval (.tmp (b0k ops i))) B
 ext:(∃i∈E,listed.getD i false=false)→Ext w0 W
theorem q0W {E:List Nat}{listed0:Array Bool}{size0:Nat}(hsel: ∀(j:Nat) (o:Oper) cs b,ops[j]? =some o→o.op≠ .select cs b)(hs0:listed0.size=ops.size)
  (hT: ∀i∈E,Took ops listed0 wv E size0 i) (hord:c0p ops listed0 wv E size0 [] E=true):
  ∀(fuel:Nat) (listed:Array Bool) (A:Act) (W:World) (fuelB:Nat) (listedB:Array Bool) (B:Act),fuel=listed.toList.count false→fuelB=listedB.toList.count false→B.tmps.size=size0→
   GInv P ops w0 wv E listed0 listed A W listedB B→b0a P ops w0 wv Q fuelB listedB B W→b0a P ops w0 wv Q fuel listed A W:=by
 intro fuel
 induction fuel with
 | zero=>
  intro listed A W fuelB listedB B hc hcB hBs hI hK
  have hall: ∀i,i<ops.size→listed.getD i false=true:=by
   intro i hi
   have hi':i<listed.size:=by rw[hI.s1];exact hi
   cases hb:listed.getD i false with
   |true=>rfl
   |false=>
    exfalso
    have hm:false∈listed.toList:=by rw[←hb];simp[Array.getD,hi']
    have:=List.count_pos_iff.2 hm
    omega
  have hAB:A=B:=k0x hI.tmps hI.defers fun t=>hI.same t fun i hi hl=>by
   obtain⟨o,ho,_⟩:=(hT i hi).ex
   rw[hall i (Array.getElem?_eq_some_iff.1 ho).1]at hl;cases hl
  have hLB:listedB=listed:=by
   apply Array.ext (by rw[hI.s1,hI.s2])
   intro i h1 h2
   have h3:i<ops.size:=by rw[←hI.s1];exact h2
   have:=hI.both i h3
   rw[hall i h3]at this
   have h4:=hall i h3
   simp[Array.getD,h1,h2]at this h4
   rw[this,h4]
  subst hAB
  subst hLB
  have:fuelB=0:=by omega
  subst this
  exact hK
 | succ fuel ih=>
  intro listed A W fuelB listedB B hc hcB hBs hI hK
  have hready_lt: ∀{L:Array Bool} {i:Nat},i∈Region.ready .any ops L→i<ops.size:=fun hi=>by
   obtain⟨_,o,ho,_⟩:=mem_ready.1 hi
   exact(Array.getElem?_eq_some_iff.1 ho).1
  have hun0: ∀j,j<ops.size→listed.getD j false=false→listed0.getD j true=false:=fun j hj hl=>by
   rw[b0h (by rw[hs0];exact hj)]
   cases hb:listed0.getD j false with
   |false=>rfl
   |true=>rw[hI.mono j hb]at hl;cases hl
  have hfirst:(∃i∈E,listed.getD i false=false)→Region.ready .any ops listed≠ []:=by
   rintro⟨i,hiE,hil⟩ hempty
   have key: ∀(l2 l1:List Nat),E=l1++l2→(∀j∈l1,listed.getD j false=true)→ ∀j∈l2,listed.getD j false=true:=by
    intro l2
    induction l2 with
    |nil=>intro _ _ _ j hj;cases hj
    | cons x l2 ih2=>
     intro l1 hE hl1
     have hx:listed.getD x false=true:=by
      cases hb:listed.getD x false with
      |true=>rfl
      | false=>
       exfalso
       obtain⟨o,ho,_⟩:=(hT x (by rw[hE];simp)).ex
       have hxs:=(Array.getElem?_eq_some_iff.1 ho).1
       have hr:x∈Region.ready .any ops listed:=mem_ready.2 ⟨d0s (by rw[hI.s1];exact hxs) hb,o,ho,fun e he hbe=>by
        have:=f0V l1 [] x l2 (by rw[←hE];exact hord) (fun j hj=>by rw[hE];simpa using hj) o ho e he hbe
        rcases this with h|h
        ·exact hI.mono _ h
        ·exact hl1 _ (by simpa using h)⟩
       rw[hempty]at hr;cases hr
     intro j hj
     rcases List.mem_cons.1 hj with rfl|hj
     ·exact hx
     ·exact ih2 (l1++[x]) (by rw[hE];simp) (fun k hk=>by
       rcases List.mem_append.1 hk with hk|hk
       ·exact hl1 k hk
       ·rw[List.mem_singleton.1 hk];exact hx) j hj
   have:=key E [] rfl (fun j hj=>by cases hj) i hiE
   rw[hil]at this;cases this
  have hdone:(¬ ∃i∈E,listed.getD i false=false)→A=B∧listedB=listed:=fun hno=>by
   have hAB:A=B:=k0x hI.tmps hI.defers fun t=>hI.same t fun i hi hl=>absurd ⟨i,hi,hl⟩ hno
   refine⟨hAB,Array.ext (by rw[hI.s1,hI.s2]) fun i h1 h2=> ?_⟩
   have h3:i<ops.size:=by rw[←hI.s1];exact h2
   have:=hI.both i h3
   cases hb:listed.getD i false with
   |true=>
    rw[hb]at this
    simp[Array.getD,h1,h2]at this hb
    rw[this,hb]
   |false=>
    have hnE:i∉E:=fun hE=>hno ⟨i,hE,hb⟩
    rw[hb]at this
    simp[Array.getD,h1,h2,hnE]at this hb
    rw[this,hb]
  have hfuelB:(∃j,j<ops.size∧listedB.getD j false=false)→ ∃f,fuelB=f+1:=by
   rintro⟨j,hj,hl⟩
   have hj':j<listedB.size:=by rw[hI.s2];exact hj
   have hm:false∈listedB.toList:=by rw[←hl];simp[Array.getD,hj']
   have:=List.count_pos_iff.2 hm
   exact⟨fuelB-1,by omega⟩
  refine⟨fun hempty=> ?_,fun i hi=> ?_⟩
  ·have hno: ¬ ∃i∈E,listed.getD i false=false:=fun h=>hfirst h hempty
   obtain⟨hAB,hLB⟩:=hdone hno
   subst hAB
   subst hLB
   cases fuelB with
   |zero=>exact hK.2
   |succ f=>exact hK.1 hempty
  ·obtain⟨h0,o,ho,hdeps⟩:=mem_ready.1 hi
   obtain⟨hil,hif⟩:=h0L h0
   have hio:=hready_lt hi
   have hcs:=a0R listed.toList i (by simpa using hil) (by simpa[Array.getD,hil]using hif)
   have hlook: ∀j∈E,listed.getD j false=false→j≠i→b0k ops j∉o.looksAt ops:=fun j hjE hjl hji hm=>by
    obtain⟨oj,hoj,_,hdj,_⟩:=(hT j hjE).ex
    have hjs:=(Array.getElem?_eq_some_iff.1 hoj).1
    by_cases hiE:i∈E
    ·have:=(hT i hiE).looks o j oj _ ho hoj hji (hun0 j hjs hjl) hdj hm
     obtain⟨x,hx,hxb,hxo⟩:=b0t this.2
     have:=hdeps x hx hxb
     rw[hxo,hjl]at this;cases this
    ·have:=((hT j hjE).read i o ho (Ne.symm hji) (hun0 i hio hif) hiE).1 hm
     obtain⟨x,hx,hxb,hxo⟩:=b0t this
     have:=hdeps x hx hxb
     rw[hxo,hjl]at this;cases this
   have hag: ∀t∈o.looksAt ops,A.eval (.tmp t)=B.eval (.tmp t):=fun t ht=>hI.same t fun j hjE hjl e=>by
    by_cases hji:j=i
    ·subst hji
     obtain⟨o',ho',_,_,hself⟩:=(hT j hjE).ex
     obtain rfl:o=o':=by rw[ho]at ho';exact Option.some.inj ho'
     exact hself (by rw[e];exact ht)
    ·exact hlook j hjE hjl hji (by rw[e];exact ht)
   have hexec:=i0C (fun cs b=>hsel i o cs b ho) hag
   have hwant:=d0n (ops:=ops) hI.tmps hag
   by_cases hiE:i∈E
   ·
    obtain⟨o',ho',hpl,hd,hself⟩:=(hT i hiE).ex
    obtain rfl:o=o':=by rw[ho]at ho';exact Option.some.inj ho'
    have hW:=hI.ext ⟨i,hiE,hif⟩
    have hlt:=(hT i hiE).lt
    have hnext:b0a P ops w0 wv Q fuel (listed.setIfInBounds i true) (A.put o.dst (B.eval (.tmp (b0k ops i)))) W:=by
     refine ih _ _ _ fuelB listedB B (by simp only[Array.toList_setIfInBounds];omega) hcB hBs ⟨by simpa using hI.s1,hI.s2,?_,?_,?_,?_,?_,?_,?_⟩ hK
     ·intro j hj
      by_cases hji:j=i
      ·subst hji;simp[Array.getD,hil]
      ·rw[getD_set_ne false (Ne.symm hji)];exact hI.mono j hj
     ·intro j hj
      by_cases hji:j=i
      ·subst hji;rw[hI.both j hj];simp[Array.getD,hil,hiE]
      ·rw[getD_set_ne false (Ne.symm hji)];exact hI.both j hj
     ·rw[hd];simp[Act.put,hI.tmps]
     ·rw[hd];simp[Act.put,hI.defers]
     ·intro t ht
      rw[hd]
      by_cases e:b0k ops i=t
      ·subst e;rw[a0z (by rw[hI.tmps,hBs];exact hlt)]
      ·rw[a0k e]
       refine hI.same t fun j hjE hjl=> ?_
       by_cases hji:j=i
       ·subst hji;exact e
       ·exact ht j hjE (by rw[getD_set_ne false (Ne.symm hji)];exact hjl)
     ·intro j hjE hjl oj hoj
      by_cases hji:j=i
      ·subst hji;simp[Array.getD,hil]at hjl
      ·rw[getD_set_ne false (Ne.symm hji)]at hjl;exact hI.pend j hjE hjl oj hoj
     ·rintro⟨j,hjE,hjl⟩
      exact hW
    have hy:=hI.pend i hiE hif o ho
    unfold wpOp
    rw[ho]
    show if Region.wanted o (yielded ops A.tmps)=true then _ else _
    rw[hwant]
    rcases hy with⟨hw,hq⟩|⟨hw,hv⟩
    ·rw[if_pos hw]
     refine .inl ?_
     have hq1:=hq W ⟨⟨W,hW⟩,rfl⟩
     have hne:=fun f args W'=>g0Q (P:=P) hpl B.eval (W:=W) (W':=W') (f:=f) (args:=args)
     unfold Oper.quietAt at hq1
     unfold Oper.wp
     rw[hexec]
     generalize(execOp B.eval o).run P W=r at*
     cases r with
     | ok nx w'=>
      cases nx<;>simp only[Oper.quietUpon]at hq1<;>simp only[Oper.upon]
      case value u=>
       obtain⟨e1,e2⟩:=hq1
       rw[e1,e2];exact⟨fun _=>hW,hnext⟩
      case skip=>
       obtain⟨e1,e2⟩:=hq1
       rw[e1,←e2];exact⟨fun _=>hW,hnext⟩
      case enter f args=>exact absurd rfl (hne f args w')
     |halt x w'=>simp only[Oper.quietUpon]at hq1
    ·rw[if_neg (by rw[hw];simp)]
     rw[hv]at hnext
     exact⟨fun _=>hW,hnext⟩
   ·
    have hiB:listedB.getD i false=false:=by rw[hI.both i hio,hif];simp[hiE]
    obtain⟨f,rfl⟩:=hfuelB ⟨i,hio,hiB⟩
    have hiBl:i<listedB.size:=by rw[hI.s2];exact hio
    have hcsB:=a0R listedB.toList i (by simpa using hiBl) (by simpa[Array.getD,hiBl]using hiB)
    have hrB:i∈Region.ready .any ops listedB:=mem_ready.2 ⟨d0s hiBl hiB,o,ho,fun e he hbe=>by
     have h1:=hdeps e he hbe
     by_cases hes:e.on<ops.size
     ·rw[hI.both _ hes,h1];rfl
     ·simp[Array.getD,show ¬e.on<listed.size by rw[hI.s1];exact hes]at h1⟩
    have hop:=hK.2 i hrB
    have hnext: ∀(ds:List Deferred) v w',((wv i=false→Ext w0 w')∧b0a P ops w0 wv Q f (listedB.setIfInBounds i true) (({B with defers:=ds}:Act).put o.dst v) w')→
      ((wv i=false→Ext w0 w')∧b0a P ops w0 wv Q fuel (listed.setIfInBounds i true) (({A with defers:=ds}:Act).put o.dst v) w'):=by
     rintro ds v w' ⟨hE',hK'⟩
     have evA: ∀t,(({A with defers:=ds}:Act).put o.dst v).eval (.tmp t)=(A.put o.dst v).eval (.tmp t):=fun t=>by cases o.dst<;>rfl
     have evB: ∀t,(({B with defers:=ds}:Act).put o.dst v).eval (.tmp t)=(B.put o.dst v).eval (.tmp t):=fun t=>by cases o.dst<;>rfl
     refine⟨hE',ih _ _ _ f _ (({B with defers:=ds}:Act).put o.dst v) (by simp only[Array.toList_setIfInBounds];omega) (by simp only[Array.toList_setIfInBounds];omega) ?_ ⟨by simpa using hI.s1,by simpa using hI.s2,?_,?_,?_,?_,?_,?_,?_⟩ hK'⟩
     ·rw[←hBs];cases o.dst<;>simp[Act.put]
     ·intro j hj
      by_cases hji:j=i
      ·subst hji;simp[Array.getD,hil]
      ·rw[getD_set_ne false (Ne.symm hji)];exact hI.mono j hj
     ·intro j hj
      by_cases hji:j=i
      ·subst hji;simp[Array.getD,hil,hiBl]
      ·rw[getD_set_ne false (Ne.symm hji),getD_set_ne false (Ne.symm hji)];exact hI.both j hj
     ·cases o.dst<;>simp[Act.put,hI.tmps]
     ·cases o.dst<;>simp[Act.put]
     ·intro t ht
      rw[evA,evB]
      have hold:(∀d,o.dst=some d→d≠t)→(A.put o.dst v).eval (.tmp t)=(B.put o.dst v).eval (.tmp t):=fun hd=>by
       have h1:A.eval (.tmp t)=B.eval (.tmp t):=hI.same t fun j hjE hjl=>by
        by_cases hji:j=i
        ·exact absurd (hji▸hjE) hiE
        ·exact ht j hjE (by rw[getD_set_ne false (Ne.symm hji)];exact hjl)
       cases hdd:o.dst with
       |none=>exact h1
       |some d=>rw[a0k (hd d hdd),a0k (hd d hdd)];exact h1
      cases hdd:o.dst with
      |none=>rw[hdd]at hold;exact hold fun d hd=>by cases hd
      | some d=>
       by_cases e:d=t
       ·subst e
        by_cases hds:d<A.tmps.size
        ·rw[a0z hds,a0z (by rw[←hI.tmps];exact hds)]
        ·have hds': ¬d<B.tmps.size:=by rw[←hI.tmps];exact hds
         simp[Act.eval,Act.put,Array.getD,hds,hds']
       ·rw[hdd]at hold
        exact hold fun d' hd'=>by cases hd';exact e
     ·intro j hjE hjl oj hoj
      have hji:j≠i:=fun e=>hiE (e▸hjE)
      rw[getD_set_ne false (Ne.symm hji)]at hjl
      have hy:=hI.pend j hjE hjl oj hoj
      have hjs:=(Array.getElem?_eq_some_iff.1 hoj).1
      have hnl: ∀d,o.dst=some d→d∉oj.looksAt ops:=fun d hd hm=>hiE ((hT j hjE).looks oj i o d hoj ho (Ne.symm hji) (hun0 i hio hif) hd hm).1
      have hnd: ∀d,o.dst=some d→d≠b0k ops j:=fun d hd e=>(hT j hjE).own i o ho (Ne.symm hji) (hun0 i hio hif) (by rw[hd,e])
      have hv:(B.put o.dst v).eval (.tmp (b0k ops j))=B.eval (.tmp (b0k ops j)):=Act.eval_put fun d hd e=>hnd d hd (by injection e with e;exact e.symm)
      rw[evB,hv]
      have hyd:YieldsIn P ops (fun w=> ∃x:SW w0,w=x.w) oj (B.eval (.tmp (b0k ops j))) ({B with defers:=ds}:Act):=hy.of_same rfl rfl
      refine hyd.of_same (execOp_put oj (fun cs b=>hsel j oj cs b hoj) _ o.dst v hnl) (wanted_put oj _ o.dst v hnl)
     ·rintro⟨j,hjE,hjl⟩
      have hji:j≠i:=fun e=>hiE (e▸hjE)
      rw[getD_set_ne false (Ne.symm hji)]at hjl
      refine hE' ?_
      cases hwi:wv i with
      |false=>rfl
      |true=>
       exfalso
       have:=((hT j hjE).read i o ho (Ne.symm hji) (hun0 i hio hif) hiE).2 hwi
       obtain⟨x,hx,hxb,hxo⟩:=b0t this
       have:=hdeps x hx hxb
       rw[hxo,hjl]at this;cases this
    unfold wpOp at hop⊢
    rw[ho]at hop⊢
    show if Region.wanted o (yielded ops A.tmps)=true then _ else _
    have hop':if Region.wanted o (yielded ops B.tmps)=true then _ else _:=hop
    rw[hwant]
    split
    ·rename_i hw
     rw[if_pos hw]at hop'
     refine .inl ?_
     have hop2:=hop'.resolve_right (by rintro⟨_,_,_,hh⟩;exact(hh:False).elim)
     unfold Oper.wp at hop2⊢
     rw[hexec]
     generalize(execOp B.eval o).run P W=r at*
     cases r with
     | ok nx w'=>
      cases nx<;>simp only[Oper.upon]at hop2⊢
      case value u=>exact hnext B.defers u w' hop2|>fun h=>by have hd:=hI.defers;rw[←hd]at h;exact h
      case skip=>exact hnext B.defers undef w' hop2|>fun h=>by have hd:=hI.defers;rw[←hd]at h;exact h
      case defer dd=>exact hnext (dd::B.defers) undef w' hop2|>fun h=>by have hd:=hI.defers;rw[←hd]at h;exact h
      case enter g args=>
       refine Calls.mono hop2 fun e W' he=> ?_
       cases e with
       |returned u=>exact hnext B.defers u W' he|>fun h=>by have hd:=hI.defers;rw[←hd]at h;exact h
       |panicked ch=>exact(he:False).elim
       |outgrown=>obtain⟨_,_,hh⟩:=he;exact(hh:False).elim
      case row row args=>exact Rows.mono hop2 fun u W' he=>hnext B.defers u W' he|>fun h=>by have hd:=hI.defers;rw[←hd]at h;exact h
     |halt x w'=>cases x<;>simp only[Oper.upon]at hop2⊢ <;>exact(hop2:False).elim
    ·rename_i hw
     rw[if_neg hw]at hop'
     exact hnext B.defers undef W hop'|>fun h=>by have hd:=hI.defers;rw[←hd]at h;exact h
def c0B (listed:Array Bool)(E:List Nat):Array Bool:=E.foldl (fun L i=>L.setIfInBounds i true) listed
theorem g0H (E:List Nat): ∀listed:Array Bool,(c0B listed E).size=listed.size:=by
 induction E with
 |nil=>intro _;rfl
 |cons i E ih=>intro L;rw[show c0B L (i::E)=c0B (L.setIfInBounds i true) E from rfl,ih];simp
theorem i0i (E:List Nat): ∀(listed:Array Bool) (j:Nat),j<listed.size→(c0B listed E).getD j false=(listed.getD j false||decide (j∈E)):=by
 induction E with
 |nil=>intro L j _;simp[c0B]
 |cons i E ih=>
  intro L j hj
  rw[show c0B L (i::E)=c0B (L.setIfInBounds i true) E from rfl,ih _ _ (by simpa using hj)]
  by_cases hji:j=i
  ·subst hji;simp[Array.getD,hj]
  ·rw[getD_set_ne false (Ne.symm hji)];simp[hji]
def f0t (l:List Oper):List Nat→List Oper
 | []=> []
 |i::is=>match l[i]?with
  |some o=>o::f0t l is
  |none=>f0t l is
theorem g0a (l:List Oper): ∀(is:List Nat),(is.all fun i=>decide (i<l.length))=true→is.map (fun i=>l.toArray[i]?)=(f0t l is).map some
 | [],_=>rfl
 |i::is,h=>by
  simp only[List.all_cons,Bool.and_eq_true,cQ]at h
  have hi:l[i]? =some l[i]:=by simp[h.1]
  simp only[List.map_cons,f0t,hi,List.map_cons,g0a l is h.2]
  simp[h.1]
theorem G.take {l:List Oper}{a:Act}{w:World}{fuel:Nat}{listed:Array Bool}(E:List Nat)(listed':Array Bool)(fuel':Nat)(hns:Region.noSelect l.toArray=true)(hin:(E.all fun i=>decide (i<l.length))=true)
  (hok:c0p l.toArray listed wv E a.tmps.size [] E=true) (hsz:listed.size=l.toArray.size) (hf:fuel=listed.toList.count false) (hl':c0B listed E=listed') (hf':fuel'=listed'.toList.count false) (hE:Ext w0 w)
  (h:wpQuiet P l.toArray (fun w=> ∃x:SW w0,w=x.w) (fun a1=>b0a P l.toArray w0 wv Q fuel' listed' a1 w) (f0t l E) a):b0a P l.toArray w0 wv Q fuel listed a w:=by
 obtain⟨a1,hK,h1,h2,h3,h4,h5⟩:=i0o E [] (f0t l E) a hok (fun j hj=>by simpa using hj) (g0a l E hin) h
 subst hl'
 refine q0W (size0:=a.tmps.size) (E:=E) (listed0:=listed) (Region.noSelect_spec hns) hsz h4 hok fuel listed a w fuel' (c0B listed E) a1 hf hf' h1 ⟨hsz,by rw[g0H];exact hsz,fun _ h=>h,fun i hi=>i0i E listed i (by rw[hsz];exact hi),h1.symm,h2.symm,?_,fun i hi _ o ho=>h5 i hi o ho,fun _=>hE⟩ hK
 intro t ht
 refine(h3 t fun i hi=>ht i hi ?_).symm
 have hfr:=(h4 i hi).free
 exact(h0L hfr).2
theorem G.one {a:Act}{w:World}{fuel:Nat}{listed:Array Bool}(i:Nat){o:Oper}(listed':Array Bool)(ho:ops[i]? =some o)(hr:Region.ready .any ops listed= [i])(hl':listed.setIfInBounds i true=listed')(hw:Region.wanted o (yielded ops a.tmps)=true)
  (h:o.wp P a w (fun a' w'=>(wv i=false→Ext w0 w')∧b0a P ops w0 wv Q fuel listed' a' w') (e0G Q)):b0a P ops w0 wv Q (fuel+1) listed a w:=by
 subst hl'
 refine⟨fun e=>(by rw[hr]at e;cases e),fun j hj=> ?_⟩
 rw[hr]at hj
 obtain rfl:=List.mem_singleton.1 hj
 unfold wpOp
 rw[ho]
 show if Region.wanted o (yielded ops a.tmps)=true then _ else _
 rw[if_pos hw]
 exact .inl h
theorem G.call {a:Act}{w:World}{fuel:Nat}{listed:Array Bool}(i:Nat){o:Oper}(listed':Array Bool){f:FuncId}{fn:Func}{xs:Array Operand}{ats:Array TypeId}(ho:ops[i]? =some o)
  (hop:o.op= .call {callee:= .value (.func f),args:=xs,argTypes:=ats}) (hfn:P.funcs[f]? =some fn) (hn:(fn.name== "runtime.NumGoroutine")=false) (hb:fn.body.isNone=false)
  (hr:Region.ready .any ops listed= [i]) (hl':listed.setIfInBounds i true=listed') (hw:Region.wanted o (yielded ops a.tmps)=true) {args:Array Value} (hargs:xs.map a.eval=args)
  (h:Calls P f args w fun e w'=> ∃v,e= .returned v∧(wv i=false→Ext w0 w')∧b0a P ops w0 wv Q fuel listed' (a.put o.dst v) w'):b0a P ops w0 wv Q (fuel+1) listed a w:=by
 refine G.one i listed' ho hr hl' hw ?_
 unfold Oper.wp
 rw[b0z hop hfn hn hb,hargs]
 refine Calls.mono h fun e w' he=> ?_
 obtain⟨v,rfl,h1,h2⟩:=he
 exact⟨h1,h2⟩
theorem G.two {a:Act}{w:World}{fuel:Nat}{listed:Array Bool}(i j:Nat)(hr:Region.ready .any ops listed= [i,j])
  (h1:wpOp P ops (e0G Q) i (fun a' w'=>(wv i=false→Ext w0 w')∧b0a P ops w0 wv Q fuel (listed.setIfInBounds i true) a' w') a w)
  (h2:wpOp P ops (e0G Q) j (fun a' w'=>(wv j=false→Ext w0 w')∧b0a P ops w0 wv Q fuel (listed.setIfInBounds j true) a' w') a w):b0a P ops w0 wv Q (fuel+1) listed a w:=by
 refine⟨fun e=>(by rw[hr]at e;cases e),fun k hk=> ?_⟩
 rw[hr]at hk
 rcases List.mem_cons.1 hk with rfl|hk
 ·exact h1
 ·obtain rfl:=List.mem_singleton.1 hk
  exact h2
theorem G.wp {a:Act}{w:World}{K:Act→World→Prop}(i:Nat){o:Oper}(ho:ops[i]? =some o)(hw:Region.wanted o (yielded ops a.tmps)=true)(h:o.wp P a w K (e0G Q)):wpOp P ops (e0G Q) i K a w:=by
 unfold wpOp
 rw[ho]
 show if Region.wanted o (yielded ops a.tmps)=true then _ else _
 rw[if_pos hw]
 exact .inl h
theorem G.done {a:Act}{w:World}(fuel:Nat){listed:Array Bool}(hr:Region.ready .any ops listed= [])(h:Q a w):b0a P ops w0 wv Q fuel listed a w:=by
 cases fuel with
 |zero=>exact⟨hr,h⟩
 |succ f=>exact⟨fun _=>h,fun i hi=>by rw[hr]at hi;cases hi⟩
def f0M (ops:Array Oper)(wv:Nat→Bool):Array Bool→List Nat→Bool
 |listed,[]=>Region.ready .any ops listed== []
 |listed,i::is=>(Region.ready .any ops listed== [i])&&wv i&&f0M ops wv (listed.setIfInBounds i true) is
theorem G.list {l:List Oper}: ∀(is:List Nat) (fuel:Nat) (listed:Array Bool) (a:Act) (w:World),fuel=is.length→(is.all fun i=>decide (i<l.length))=true→f0M l.toArray wv listed is=true→
  wpList P l.toArray (e0G Q) (f0t l is) a w→b0a P l.toArray w0 wv Q fuel listed a w
 | [],fuel,listed,a,w,hf,_,hc,h=>G.done fuel (by simpa[f0M]using hc) h
 | i::is,fuel,listed,a,w,hf,hin,hc,h=>by
  simp only[List.all_cons,Bool.and_eq_true,cQ]at hin
  simp only[f0M,Bool.and_eq_true,beq_iff_eq]at hc
  obtain⟨⟨hr,hwv⟩,hc⟩:=hc
  have hi:l[i]? =some l[i]:=by simp[hin.1]
  have ho:l.toArray[i]? =some l[i]:=by simp[hin.1]
  simp only[f0t,hi]at h
  subst hf
  have hK: ∀a' w',wpList P l.toArray (e0G Q) (f0t l is) a' w'→(wv i=false→Ext w0 w')∧b0a P l.toArray w0 wv Q is.length (listed.setIfInBounds i true) a' w':=fun a' w' h'=>
   ⟨fun e=>(by rw[hwv]at e;cases e),G.list is is.length _ a' w' rfl hin.2 hc h'⟩
  refine⟨fun e=>(by rw[hr]at e;cases e),fun j hj=> ?_⟩
  rw[hr]at hj
  obtain rfl:=List.mem_singleton.1 hj
  unfold wpList at h
  unfold wpOp
  rw[ho]
  show if Region.wanted l[j] (yielded l.toArray a.tmps)=true then _ else _
  split
  ·rename_i hw;rw[if_pos hw]at h;exact h.imp (Oper.wp_mono hK) id
  ·rename_i hw;rw[if_neg hw]at h;exact hK _ _ h
end
end Go.Proofs.YtojomcdjcpmnkaaGreat.L
namespace Go.Proofs.YtojomcdjcpmnkaaGreat.W
open Go.RowKit L
end Go.Proofs.YtojomcdjcpmnkaaGreat.W
namespace Go.Proofs.YtojomcdjcpmnkaaGreat.Wi
open Go.RowKit L A Dk W
attribute [local irreducible] AW AQ AO
structure Win where
 s:Int
 t:Int
 b:Nat
 l:Bool
 deriving DecidableEq
def Win.ok (w:Win):Prop:=p0b w.s∧p0b w.t∧w.b<2^64
def zeroW:Win:=⟨0,0,0,false⟩
def check (w:Win)(n:Int):Int:=p0p w.s w.t w.b w.l n
def acc (w:Win)(n:Int):Win:=if check w n=0 then⟨w.s,s0m w.t n,s0n w.s w.t w.b n,false⟩else zeroW
def valid (w:Win):Bool:=l0N w.s w.t w.b w.l
end Go.Proofs.YtojomcdjcpmnkaaGreat.Wi
namespace Go.Proofs.YtojomcdjcpmnkaaGreat.By
open Go.RowKit L A
attribute [local irreducible] AW AQ AO
abbrev SmT (m:Msg):Prop:=SmS m∧m.pay.length≤900000
abbrev n0T (c:Cx)(b:Bd):Prop:=b.kid=c.inp.snd∧b.ctx=c.inp.ctx∧c0a b.piv
abbrev q0O (v:Cmp):Prop:=v.hasKid=false∧v.hasCtx=false∧v.group=false
noncomputable def orP (c:Cx)(b:Bd)(m:Msg):Msg×Int:=o0L c.rk m (b0W c b c.inp.rcp (b0c m).1.piv) (i0T b.kid b.piv).1 false
noncomputable def orR (c:Cx)(b:Bd)(m:Msg):Msg×Int×Int:=
 if ¬g0z c then(Msg.none,0,1)else if ¬n0T c b then(Msg.none,0,36)else
 if(b0c m).2≠0 then(Msg.none,0,(b0c m).2)else if ¬q0O (b0c m).1 then(Msg.none,0,4)else
 if(orP c b m).2≠0 then(Msg.none,0,(orP c b m).2)else((orP c b m).1,(b0c m).1.piv,0)
abbrev Win:=Wi.Win
abbrev q0P (v:Cmp):Prop:=0≤v.piv∧v.hasKid=true∧v.group=false
abbrev n0R (c:Cx)(v:Cmp):Prop:=v.kid=c.inp.rcp∧v.hasCtx=c.inp.has∧v.ctx=c.inp.ctx
noncomputable def oqP (c:Cx)(m:Msg):Msg×Int:=o0L c.rk m (a0V c.com (b0c m).1.kid (b0c m).1.piv).1 (i0T (b0c m).1.kid (b0c m).1.piv).1 true
abbrev q0X (w:Win)(n:Int):Prop:=w.l=true∨Wi.check w n=0
abbrev n0W (e:Int):Msg×Bd×Win×Int:=(Msg.none,Bd.none,Wi.zeroW,e)
noncomputable def oqR (c:Cx)(w:Win)(m:Msg):Msg×Bd×Win×Int:=
 if ¬(g0z c∧Wi.valid w=true)then n0W 1 else
 if(b0c m).2≠0 then n0W (b0c m).2 else if ¬q0P (b0c m).1 then n0W 4 else if ¬n0R c (b0c m).1 then n0W 18 else
 if ¬q0X w (b0c m).1.piv then n0W (Wi.check w (b0c m).1.piv)else
 if(oqP c m).2≠0 then n0W (oqP c m).2 else((oqP c m).1,⟨(b0c m).1.ctx,(b0c m).1.kid,(b0c m).1.piv⟩,(if w.l=true then w else Wi.acc w (b0c m).1.piv),0)
end Go.Proofs.YtojomcdjcpmnkaaGreat.By
namespace Go.Proofs.YtojomcdjcpmnkaaGreat.Wi
open Go.RowKit L A Dk W
attribute [local irreducible] AW AQ AO
end Go.Proofs.YtojomcdjcpmnkaaGreat.Wi
namespace Go.Proofs.YtojomcdjcpmnkaaGreat.By
open Go.RowKit L A Dk
attribute [local irreducible] AW AQ AO
abbrev SmC (m:Msg):Prop:=m.tok.length≤1000∧m.pay.length≤10000∧m.opts.length≤100∧ ∀o∈m.opts,o.val.length≤10000
theorem m0D {m:Msg}(h:ValM m):SmC m:=by
 obtain⟨h1,h2,h3,h4⟩:=ValM.sm h
 refine⟨by omega,by omega,by omega,fun o ho=> ?_⟩
 obtain⟨k,hk,rfl⟩:=List.getElem_of_mem ho
 have:=h4 k hk
 have e:oat m.opts k=m.opts[k]:=by simp[hk]
 rw[e]at this;omega
theorem j0h {m:Msg}(h:e0x m):SmC m:=by
 obtain⟨⟨h1,h2,h3⟩,h4⟩:=h
 refine⟨by omega,by omega,by omega,fun o ho=> ?_⟩
 obtain⟨k,hk,rfl⟩:=List.getElem_of_mem ho
 have:=h4 k hk
 have e:oat m.opts k=m.opts[k]:=by simp[hk]
 rw[e]at this;omega
theorem p0Y {m:Msg}(h:SmC m):SmT m:=by
 obtain⟨h1,h2,h3,h4⟩:=h
 exact⟨⟨by omega,by omega,by omega,fun o ho=>by have:=h4 o ho;omega⟩,by omega⟩
theorem m0H {m:Msg}(h:SmC m)(n:Int){vs:List (List UInt8)}(hv:vs.length≤200)(hs: ∀v∈vs,v.length≤20000):SmT ⟨m.ty,m.code,m.id,m.tok,d0p m.opts n vs,m.pay⟩:=by
 obtain⟨h1,h2,h3,h4⟩:=h
 have:=f0o m.opts n vs
 refine⟨⟨by show m.tok.length≤_;omega,by show m.pay.length≤_;omega,by show(d0p m.opts n vs).length≤_;omega,fun o ho=> ?_⟩,by show m.pay.length≤_;omega⟩
 rcases c0d ho with h|⟨v,h,rfl⟩
 ·have:=h4 o h;omega
 have:=hs v h;show v.length≤_;omega
abbrev o0s (m:Msg)(n:Int)(vs:List (List UInt8)):Msg:=⟨m.ty,m.code,m.id,m.tok,d0p m.opts n vs,m.pay⟩
theorem m0I {m:Msg}(h:SmC m)(n:Int)(vs:List (List UInt8))(hv:vs.length≤200)(hs: ∀v∈vs,v.length≤20000):Sp Tryz.prog 25 [b0s m,.val (.int .i64 n),m0P vs] [] (Is (b0s (o0s m n vs))):=by
 obtain⟨h1,h2,h3,h4⟩:=h
 exact l0Q m n vs (by omega) (by omega) (by omega) (by omega) (fun o ho=>by have:=h4 o ho;omega) (fun v hv=>by have:=hs v hv;omega)
theorem k0L {m:Msg}(h:SmC m)(n:Int)(x:List UInt8)(hx:x.length≤20000):Sp Tryz.prog 25 [b0s m,.val (.int .i64 n),.ro false 1 [roB x]] [] (Is (b0s (o0s m n [x]))):=m0I h n [x] (by simp) (fun v hv=>by obtain rfl:=List.mem_singleton.1 hv;exact hx)
def m0m (b:Bd):List AV:=cBd b
theorem i0K (b:Bd):(m0m b).length=3:=rfl
def q0H (l:List Bd):List AV:=l.flatMap m0m
def q0c (l:List Bd):AV:= .ro false l.length (q0H l)
abbrev r0q (l:List Bd)(k:Nat):Bd:=l.getD k Bd.none
theorem p0e {l:List Bd}{k:Nat}(h:k<l.length){j:Nat}(hj:j=k):((q0H l).drop (j*3)).take 3=cBd (r0q l k):=f0D i0K Bd.none h hj
theorem m0i {q:Bool}{m:Msg}(h:DM q m):SmC m:=m0D h.val
set_option maxHeartbeats 8000000 in
theorem g0X (raw:Cx)(m:Msg)(l:List Int)(b:Bd)(piv:Int)(hop:m.opts.length≤maxLen)(hl:l.length≤maxLen):Sp Tryz.prog 4 [h0Z raw,b0s m,roI l,i0P b,.val (.int .i64 piv)] [] (Is (.val (.bool true))):=by
 have hall:Sp Tryz.prog 20 [.ro false 2 [roB b.kid,roB b.ctx]] [] (Is (.val (.bool (p0w [b.kid,b.ctx])))):=k0u [b.kid,b.ctx]
 refine yr Tryz.func4 _ Tryz.ntmps4 (fun w0 R0=> ?_)
 refine zB (zr ?_)
 refine ya ?_
 intro B1
 refine ya ?_
 intro B2
 refine ya ?_
 intro B3
 refine zc (zE (zm (zB (zB (zr ?_)))))
 refine zD ?_
 refine wl (xl rfl Tryz.func8 rfl rfl rfl (i0t raw)) ?_
 refine xf ?_
 refine zb ?_
 refine AO.opG rfl rfl rfl (fun hp=>zp) ?_
 refine AO.opG rfl rfl rfl (fun hp=>wo 38 rfl (by exact hp) (xl rfl Tryz.func9 rfl rfl rfl (j0i m hop))) ?_
 refine y3 39 ?_
 refine zF ?_
 refine zb ?_
 refine zJ ?_
 refine zl 43 ?_
 refine zJ ?_
 refine zl 45 ?_
 refine AO.opG rfl rfl rfl (fun hp=>wo 44 rfl (by exact hp) (wo 46 rfl (by exact hp) x0)) ?_
 refine AO.opG rfl rfl rfl (fun hp=>wo 47 rfl (by exact hp) (xl rfl Tryz.func20 rfl rfl rfl hall)) ?_
 refine y3 48 ?_
 refine zF (zE (zm ?_))
 refine yk (fun h=> ?_) (fun h=> ?_)<;>(try simp only[wr]at h)
 ·refine zB (zr ?_)
  refine wl (xl rfl Tryz.func10 rfl rfl rfl f0e) ?_
  refine zc (zE (zm (yR (y0 ?_))))
  refine yd
 have hso: ∀(q:Msg) (v:Cmp),DM true q→SmO (o0s q 9 [(c0S v).1]):=fun q v hq=>o0o (m0H (m0i hq) 9 (vs:= [(c0S v).1]) (by simp) (fun w hw=>by obtain rfl:=List.mem_singleton.1 hw;exact Nat.le_trans (f0J _) (by decide))).1
 have hsm:SmO m:=o0o (p0Y (j0h h.1.2)).1
 refine yI (zm (zB (zr ?_)))
 refine zb ?_
 refine AO.opB (xl rfl Tryz.func11 rfl rfl rfl (o0O _)) rfl rfl rfl ?_
 intro B4
 refine zc (zE (zm (zB (zr ?_))))
 refine zb ?_
 refine AO.callMG 0 rfl rfl Tryz.func12 rfl rfl rfl rfl rfl rfl (h0h _ l _ hl (by exact Nat.zero_le _)) ?_
 rintro _ _ ⟨⟨c5,hc5,rfl⟩,kd5,hkd5,rfl⟩
 dsimp only[cA,cN,List.eraseIdx]
 refine zd ?_
 intro B6
 refine za 0 (zE (zm (zB (zr ?_))))
 refine zD ?_
 refine wl (xl rfl Tryz.func21 rfl rfl rfl (h0C m hsm)) ?_
 refine zb ?_
 refine zW ?_
 refine zW ?_
 refine zd ?_
 intro B7
 refine za 0 ?_
 refine zc (zE (zm (zB (zr ?_))))
 refine zD ?_
 refine wl (xl rfl Tryz.func22 rfl rfl rfl (h0u m hsm)) ?_
 refine zb ?_
 refine zW ?_
 refine zW ?_
 refine zd ?_
 intro B8
 refine za 0 ?_
 refine zc (zE (zm (zB (zr ?_))))
 refine zb ?_
 refine AO.callMG 3 rfl rfl Tryz.func14 rfl rfl rfl rfl rfl rfl (g0R _ l _ hl (by assumption)) ?_
 rintro _ _ ⟨⟨n9,hn9,rfl⟩,kd9,hkd9,rfl⟩
 dsimp only[cA,cN,List.eraseIdx]
 refine zb ?_
 refine AO.callMG 0 rfl rfl Tryz.func24 rfl rfl rfl rfl rfl rfl (b0X _ l _ 7 hl (by assumption) (by omega)) ?_
 rintro _ _ ⟨⟨x10,hx10,rfl⟩,kd10,hkd10,rfl⟩
 dsimp only[cA,cN,List.eraseIdx]
 refine zT ?_
 refine wl (xP rfl Tryz.func23 rfl rfl rfl (g0L ⟨_,true,_,false,[],false⟩)) ?_
 refine zb ?_
 refine zW ?_
 refine zW ?_
 refine zc ?_
 refine zc (zE (zm (zB (zr ?_))))
 refine zb ?_
 refine AO.callMG 0 rfl rfl Tryz.func13 rfl rfl rfl rfl rfl rfl (g0I _ l _ hl (by assumption)) ?_
 rintro _ _ ⟨⟨m11,hm11,rfl⟩,kd11,hkd11,rfl⟩
 dsimp only[cA,cN,List.eraseIdx]
 refine zb ?_
 refine zQ ?_
 intro B12
 refine AO.g ?_
 refine z6 0 78 ?_
 refine xz 78 ?_
 refine AO.u ?_
 dsimp only[List.eraseIdx]
 refine wl (xl rfl Tryz.func25 rfl rfl rfl (k0L (m0i (by assumption)) 9 _ (Nat.le_trans (f0J _) (by decide)))) ?_
 refine zd ?_
 intro B13
 refine za 0 (zE (zm (zB (zr ?_))))
 refine zy ?_
 refine wl (xl rfl Tryz.func21 rfl rfl rfl (h0C (o0s m11 9 [(c0S ⟨n9,true,x10,false,[],false⟩).1]) (hso _ _ hm11))) ?_
 refine zb ?_
 refine zW ?_
 refine zW ?_
 refine zd ?_
 intro B14
 refine za 0 ?_
 refine zc (zE (zm (zB (zr ?_))))
 refine zD ?_
 refine wl (xl rfl Tryz.func22 rfl rfl rfl (h0u (o0s m11 9 [(c0S ⟨n9,true,x10,false,[],false⟩).1]) (hso _ _ hm11))) ?_
 refine zb ?_
 refine zW ?_
 refine zW ?_
 refine zd ?_
 intro B15
 refine za 0 ?_
 refine zc (zE (zm (zB (zB ?_))))
 refine yv 34 ?_
 simp only[cT,cZ,cD,cO]
 refine zG ?_
 refine zG ?_
 refine wm (O.neq rfl rfl rfl (by exact bne_eq_false_iff_eq.2 (by omega))) ?_
 refine zG ?_
 refine wm zp ?_
 refine wm zp ?_
 refine wm (xl rfl Tryz.func26 rfl rfl rfl (h0S _ _)) ?_
 refine wm y9 ?_
 refine wm (O.pickF rfl rfl rfl) ?_
 refine zG ?_
 refine FA.opG rfl rfl rfl rfl (fun hp=>zf) ?_
 refine FA.opG rfl rfl rfl rfl (fun hp=>zf) ?_
 refine FA.opG rfl rfl rfl rfl (fun hp=>wo 100 rfl (by exact hp) (wo 101 rfl (by exact hp) (O.neq rfl rfl rfl (by exact bne_eq_false_iff_eq.2 (by omega))))) ?_
 refine wm zM ?_
 refine zG ?_
 refine y7 ?_
 refine FA.opG rfl rfl rfl rfl (fun hp=>zu) ?_
 refine FA.opG rfl rfl rfl rfl (fun hp=>wo 105 rfl (by exact hp) (wo 106 rfl (by exact hp) (xl rfl Tryz.func26 rfl rfl rfl (h0S _ _)))) ?_
 refine FA.opG rfl rfl rfl rfl (fun hp=>wo 107 rfl (by exact hp) y9) ?_
 refine wm zM ?_
 refine zG ?_
 refine y7 ?_
 refine FA.opG rfl rfl rfl rfl (fun hp=>wo 111 rfl (by exact hp) (xl rfl Tryz.func27 rfl rfl rfl (c0G _))) ?_
 refine y7 ?_
 refine FA.opG rfl rfl rfl rfl (fun hp=>wo 113 rfl (by exact hp) (xl rfl Tryz.func28 rfl rfl rfl (c0V _))) ?_
 refine FA.opG rfl rfl rfl rfl (fun hp=>wo 112 rfl (by exact hp) (wo 114 rfl (by exact hp) (O.neqB rfl rfl rfl (by rfl)))) ?_
 refine wm zM ?_
 refine zG ?_
 refine y7 ?_
 refine FA.opG rfl rfl rfl rfl (fun hp=>wo 118 rfl (by exact hp) (xl rfl Tryz.func27 rfl rfl rfl (c0G _))) ?_
 refine y7 ?_
 refine FA.opG rfl rfl rfl rfl (fun hp=>wo 120 rfl (by exact hp) (xl rfl Tryz.func28 rfl rfl rfl (c0V _))) ?_
 refine FA.opG rfl rfl rfl rfl (fun hp=>wo 119 rfl (by exact hp) (wo 121 rfl (by exact hp) (O.neqB rfl rfl rfl (by rfl)))) ?_
 refine wm zM ?_
 refine wh ?_
 simp only[a0l,cN,cA,cP]
 refine zE (zm ?_)
 refine yk (fun hbad=> ?_) (fun hbad=> ?_)<;>(try simp only[wr]at hbad)
 ·exact absurd hbad (by simp)
 refine AW.g ?_
 refine G.freezePtr 7 8 rfl rfl ?_
 refine AW.u ?_
 dsimp only[List.eraseIdx]
 refine yI (zm (zB (zB (zr ?_))))
 refine zD ?_
 refine zD ?_
 refine yF ?_
 intro B16
 refine AO.g ?_
 refine z6 0 126 ?_
 refine xz 126 ?_
 refine AO.u ?_
 dsimp only[List.eraseIdx]
 refine zR ?_
 refine zb (zE (zm (yT ?_)))
 obtain⟨cs,hcs⟩: ∃cs:List Cx,cs= [raw,c5]:=⟨_,rfl⟩
 have hcl:cs.length=2:=by rw[hcs];rfl
 refine AW.g ?_
 refine G.re 126 (r0v cs) (by rw[hcs];rfl) ?_
 refine AW.u ?_
 refine AW.loopK [(4,_),(8,_),(11,_),(126,_),(127,_)] (fun nn E H=> ∃(i:Nat) (kd:Nat),(i≤2)∧(kd≤l.length)∧nn=2-i∧E= [(128,.val (.int .i64 (i:Int)))]∧H= [e0E B4 l kd]) _ (⟨0,_,by omega,hkd11,rfl,rfl,rfl⟩) (by repeat(first|exact a0f|refine a0h rfl ?_)) (by repeat(first|exact a0f|refine a0h rfl ?_)) (by repeat(first|exact a0p|refine a0m 3 rfl ?_)) ?_
 rintro nn E H ⟨i,kd,hi,hkd,rfl,rfl,rfl⟩
 dsimp only[cA,cN]
 refine zB (zr ?_)
 refine zN (zE (zm (zB ?_)))
 refine yk (fun h1=> ?_) (fun h1=> ?_)<;>(try simp only[wr]at h1)
 ·obtain⟨x,hx⟩: ∃x,x=r0o cs i:=⟨_,rfl⟩
  have hg:((q0E cs).drop (Int.toNat (i:Int)*9)).take 9=cX x:=by rw[q0v (k:=i) (by omega) (by omega),hx]
  refine yI (zm (zB (yT (zB (zr ?_)))))
  refine z8 ?_
  refine wl (O.loadRK rfl rfl (by exact hg) (by rfl)) ?_
  refine zd ?_
  intro B17
  refine za 0 (zE (zm (zB (zr ?_))))
  refine zb ?_
  refine zb ?_
  refine AO.callMG 1 rfl rfl Tryz.func14 rfl rfl rfl rfl rfl rfl (g0R _ l _ hl (by assumption)) ?_
  rintro _ _ ⟨⟨n18,hn18,rfl⟩,kd18,hkd18,rfl⟩
  dsimp only[cA,cN,List.eraseIdx]
  refine yF ?_
  intro B19
  refine AO.g ?_
  refine z6 0 135 ?_
  refine xz 135 ?_
  refine AO.u ?_
  dsimp only[List.eraseIdx]
  refine zR ?_
  refine zb (zE (zm (yT ?_)))
  refine AW.g ?_
  refine G.freezePtr 1 25 rfl rfl ?_
  refine AW.u ?_
  dsimp only[List.eraseIdx]
  obtain⟨ps,hps⟩: ∃ps:List Int,ps= [piv, -1,n18]:=⟨_,rfl⟩
  have hpl:ps.length=3:=by rw[hps];rfl
  refine AW.g ?_
  refine G.re 135 (roI ps) (by rw[hps];rfl) ?_
  refine AW.u ?_
  refine zh [(4,_),(8,_),(11,_),(25,_),(126,_),(127,_),(128,_),(135,_),(136,_)] (fun nn E H=> ∃(j:Nat) (kdj:Nat),(j≤3)∧(kdj≤l.length)∧nn=3-j∧E= [(137,.val (.int .i64 (j:Int)))]∧H= [e0E B4 l kdj]) _ (⟨0,_,by omega,hkd18,rfl,rfl,rfl⟩) ?_
  rintro nn E H ⟨j,kdj,hj,hkdj,rfl,rfl,rfl⟩
  dsimp only[cA,cN]
  refine zB (zr ?_)
  refine zN (zE (zm (zB ?_)))
  refine yk (fun h2=> ?_) (fun h2=> ?_)<;>(try simp only[wr]at h2)
  ·have hip:j<ps.length:=by omega
   refine yI (zm (zB (yT (zB (zr ?_)))))
   refine z8 ?_
   refine wl (O.loadR rfl rfl (by exact l0R hip (by omega))) ?_
   refine zc (zE (zm (zB ?_)))
   refine AW.regionM [(0,false),(1,false),(3,false),(8,false),(2,true),(4,true),(5,false),(6,false),(7,false)] (by kernel_rfl) (by kernel_rfl) (by exact(by exact a0G 11 0 rfl rfl a0D)) ?_
   dsimp only[List.eraseIdx]
   refine wn rfl (O.loadRK rfl rfl (by rfl) (by rfl)) ?_
   refine xg ?_
   refine xg ?_
   refine xg ?_
   refine AM.main _ rfl (fun w0 R0=> ?_)
   refine AO.callMG 0 rfl rfl Tryz.func24 rfl rfl rfl rfl rfl rfl (b0X _ l _ 8 hl (by assumption) (by omega)) ?_
   rintro _ _ ⟨⟨x20,hx20,rfl⟩,kd20,hkd20,rfl⟩
   dsimp only[cA,cN,List.eraseIdx]
   refine AM.ok ?_
   dsimp only[b0d]
   refine AM.main _ rfl (fun w0 R0=> ?_)
   refine AO.callMG 0 rfl rfl Tryz.func14 rfl rfl rfl rfl rfl rfl (g0R _ l _ hl (by assumption)) ?_
   rintro _ _ ⟨⟨n21,hn21,rfl⟩,kd21,hkd21,rfl⟩
   dsimp only[cA,cN,List.eraseIdx]
   refine AM.ok ?_
   dsimp only[b0d]
   refine wn rfl yi ?_
   refine wn rfl x0 ?_
   refine wn rfl (xm rfl rfl) ?_
   refine AM.nil ?_
   dsimp only[cA,cN]
   refine zm (yT ?_)
   generalize ps.getD j 0=n at*
   refine AW.g ?_
   refine G.coe 147 (b:=q0c [b,⟨[],x20,n21⟩]) rfl (Coe.ro (CoeL.cons Coe.rfl (CoeL.cons Coe.rfl (CoeL.cons Coe.rfl (CoeL.cons Coe.nil (CoeL.cons Coe.rfl (CoeL.cons Coe.rfl CoeL.nil))))))) ?_
   refine AW.u ?_
   obtain⟨bs,hbs⟩: ∃bs:List Bd,bs= [b,⟨[],x20,n21⟩]:=⟨_,rfl⟩
   have hbl:bs.length=2:=by rw[hbs];rfl
   rw[←hbs]
   refine zh [(4,_),(8,_),(11,_),(25,_),(27,_),(126,_),(127,_),(128,_),(135,_),(136,_),(137,_),(147,_),(148,_)] (fun nn E H=> ∃(q:Nat),(q≤2)∧nn=2-q∧E= [(149,.val (.int .i64 (q:Int)))]∧H= [e0E B4 l kd21]) _ (⟨0,by omega,rfl,rfl,rfl⟩) ?_
   rintro nn E H ⟨q,hq,rfl,rfl,rfl⟩
   dsimp only[cA,cN]
   refine zB (zr ?_)
   refine zN (zE (zm (zB ?_)))
   refine yk (fun h3=> ?_) (fun h3=> ?_)<;>(try simp only[wr]at h3)
   ·obtain⟨y,hy⟩: ∃y,y=r0q bs q:=⟨_,rfl⟩
    have hg3:((q0H bs).drop (Int.toNat (q:Int)*3)).take 3=cBd y:=by rw[p0e (k:=q) (by omega) (by omega),hy]
    refine yI (zm (zB (yT (zB (zr ?_)))))
    refine z8 ?_
    refine wl (O.loadRK rfl rfl (by exact hg3) (by rfl)) ?_
    refine zd ?_
    intro B22
    refine za 0 (zE (zm (zB (zr ?_))))
    refine wl (O.loadRK rfl rfl (by rfl) (by rfl)) ?_
    refine wl (O.loadK rfl rfl (by repeat(exact List.Mem.head _)) (by rfl) (by rfl)) ?_
    refine zb ?_
    refine wl (xl rfl Tryz.func29 rfl rfl rfl (l0e x y n)) ?_
    refine zb ?_
    refine zW ?_
    refine zW ?_
    refine zc ?_
    refine zc (zE (zm (zB (zr ?_))))
    refine wl (O.loadRK rfl rfl (by rfl) (by rfl)) ?_
    refine wl (O.loadK rfl rfl (by repeat(exact List.Mem.head _)) (by rfl) (by rfl)) ?_
    refine zb ?_
    refine wl (xl rfl Tryz.func30 rfl rfl rfl (k0P x y n)) ?_
    refine zb ?_
    refine zW ?_
    refine zW ?_
    refine zc ?_
    refine zc (zE (zm (zB (zr ?_))))
    refine zb ?_
    refine zb ?_
    refine wl (xl rfl Tryz.func31 rfl rfl rfl (b0n _ _)) ?_
    refine xf ?_
    refine zb ?_
    refine yl ?_
    refine yl ?_
    refine AO.opG rfl rfl rfl (fun hp=>wo 172 rfl (by exact hp) (wo 173 rfl (by exact hp) (xl rfl Tryz.func31 rfl rfl rfl (b0n _ _)))) ?_
    refine y3 174 ?_
    refine zF (zE (zm ?_))
    refine yk (fun h4=> ?_) (fun h4=> ?_)<;>(try simp only[wr]at h4)
    ·exact absurd h4 (by simp)
    refine yI (y5 (zm (zr ?_)))
    refine zA ?_
    refine zb (zE ?_)
    refine zH _ _ _ (by omega) (⟨q+1,by omega,rfl,rfl,rfl⟩)
   refine xx ?_
   refine xp ?_
   refine xu ?_
   refine y2 (y5 (zm (zr ?_)))
   refine zA ?_
   refine zb (zE ?_)
   refine zn _ _ _ (by omega) (⟨j+1,_,by omega,hkd21,rfl,rfl,rfl⟩)
  refine xx ?_
  refine xp ?_
  refine xu ?_
  refine y2 (y5 (zm (zr ?_)))
  refine zA ?_
  refine zb (zE ?_)
  refine zn _ _ _ (by omega) (⟨i+1,_,by omega,hkdj,rfl,rfl,rfl⟩)
 refine xx ?_
 refine xp ?_
 refine xu ?_
 refine y2 (zm (zB (zr ?_)))
 refine wl (xl rfl Tryz.func10 rfl rfl rfl f0e) ?_
 refine zc (zE (zm (yR ?_)))
 refine yd
end Go.Proofs.YtojomcdjcpmnkaaGreat.By
namespace Go.Proofs.YtojomcdjcpmnkaaGreat.A
open Go.ChangeShapes Go.WideShapes Go.ChangeAt Go.RowKit Go.Deep L
theorem own:ownKnob Tryz.prog.godebug=none:=by kernel_rfl
theorem r0G:Kids Tryz.prog (· <Tryz.prog.types.size):=kids_rows (by kernel_rfl) (by kernel_rfl)
theorem full: ∀t e,t<Tryz.prog.types.size→Tryz.prog.underlying t=some (.slice e)→0<Tryz.prog.cellsOf e:=slices_full_of Tryz.prog (by kernel_rfl)
theorem i0k {W W':World}(h:Ext W W')(p:MemPlace)(hp:p.block<W.heap.size):W.sameAt W' p:=by
 have hb:W'.heap[p.block]? =W.heap[p.block]? :=h.block _ hp (fun hh=>hh)
 cases p with
 |cell b off=>exact World.cell?_of_block (w:=W) (a:=⟨b,off,none⟩) hb
 |map b=>exact hb
section
variable {H:Type}{enc:TypeId×Value→H}
theorem c0z {P:Program}{W W':World}{base:Nat}{spare:Nat→Bool}{held:Bool}: ∀{ts:List TypeId} {vs:List Value} {ds:List (DataW H)} {ps:List MemPlace},
  DataW.TrodAll enc P W base spare held ts vs ds ps→(∀p∈ps,W.sameAt W' p)→DataW.TrodAll enc P W' base spare held ts vs ds ps
 | [],[],[],_,h,_=>h
 |_::_,_::_,_::_,_,⟨p,q,⟨n,h1⟩,h2,e⟩,hs=>⟨p,q,⟨n,DataW.trod_carry n _ _ _ h1 (fun x hx=>hs x (by rw[e];exact List.mem_append_left _ hx))⟩,c0z h2 (fun x hx=>hs x (by rw[e];exact List.mem_append_right _ hx)),e⟩
theorem n0s {fn:Func}{s:ChangeSpec}{W W':World}{args:Array Value}{ds gs:List (DataW H)}{before:List MemPlace}{bt:TypeId}
  (hW:DataW.Whole enc Tryz.prog fn.params.toList s.vars false W args.toList ds gs before) (hv:s.vars= []) (hfn:s.fn H (ds++gs)={results:= [.lit (.bool true)],args:=ds}) (hres:fn.resultTypes= #[bt]) (hbt:Tryz.prog.underlying bt=some .bool)
  (hpar: ∀t∈fn.params.toList,t<Tryz.prog.types.size) (hE:Ext W W'):s.post enc Tryz.prog fn false true false false W args (.bool true) W':=by
 have hold: ∀p∈before,(fun b=>decide (b<W.heap.size)) p.block=true:=fun p hp=>by simpa using hW.lt p hp
 have hlt:=hW.lt
 have hW':=hW
 obtain⟨pa,pv,hA,hV,rfl,hz,hn⟩:=hW
 rw[hv]at hV
 obtain⟨rfl,rfl⟩:=trodVars_none hV
 have hA':DataW.TrodAll enc Tryz.prog W' 0 (fun _=>true) true fn.params.toList args.toList ds pa:=c0z hA fun p hp=>i0k hE p (hlt p (List.mem_append_left _ hp))
 have hargs: ∀sp:Nat→Bool,(∀p∈pa++[],sp p.block=true)→DataW.TrodAll enc Tryz.prog W' 0 sp true fn.params.toList args.toList ds pa:=fun sp hsp=>
  DataW.TrodAll.respare r0G full hpar hA' fun p hp=>hsp p (by simpa using hp)
 have hres': ∀(b:Nat) (sp:Nat→Bool) (hd:Bool),DataW.TrodAll enc Tryz.prog W' b sp hd fn.resultTypes.toList ((Value.bool true).resultList fn.resultTypes.size) [.lit (.bool true)] []:=fun b sp hd=>by
  rw[hres];exact trodAll_cons_mk (shut_bool hbt true) trodAll_mk0
 refine⟨ds,[],pa++[],[],pa,[],hW',by rw[hfn];exact hres' _ _ _,by rw[hfn];exact hargs _ hold,by rw[hfn,hv];rfl,World.keptBut_mono (fun p hp=>⟨hp,?_⟩) ((hE.toBelow).frame (· ∈pa++[])),fun h=>by cases h⟩
 exact Or.inr (by simpa using hp)
def Old (W:World):Nat→Prop:=fun b=>b<W.heap.size
variable {P:Program}{W:World}
theorem l0T {base:Nat}{spare:Nat→Bool}{held:Bool}{t:TypeId}{k:IntKind}(ht:P.underlying t=some (.int k)){n:Nat}{cs:List Value}{x:DataW H×List MemPlace}(h:DataW.trod enc P W base spare held n t cs=some x):
  ∃z:Int,(Lit.int k z).wf=true∧RelL (Old W) W [.val (.int k z)] cs:=by
 cases n with
 |zero=>simp[DataW.trod]at h
 |succ n=>
  obtain⟨z,rfl,_,hw⟩:=DataW.trod_int ht h
  exact⟨z,hw,RelL.cons (.val _) RelL.nil⟩
theorem h0x {α:Type}{enc':α→List AV}{good:α→Prop}{base:Nat}{spare:Nat→Bool}{held:Bool}{t e:TypeId}(ht:P.underlying t=some (.slice e))(hsz: ∀a,(enc' a).length=P.cellsOf e)(hpos:0<P.cellsOf e)
  (he: ∀(n:Nat) (cs:List Value) (x:DataW H×List MemPlace),cs.length=P.cellsOf e→DataW.trod enc P W base spare held n e cs=some x→ ∃a,good a∧RelL (Old W) W (enc' a) cs)
  {n:Nat} {cs:List Value} {x:DataW H×List MemPlace} (h:DataW.trod enc P W base spare held n t cs=some x):
  ∃l:List α,(∀a∈l,good a)∧l.length≤maxLen∧RelL (Old W) W [.ro false l.length (l.flatMap enc')] cs:=by
 rcases open_slice ht h with⟨rfl, -⟩|⟨ad,len,cap,m,n',D,Pl,rfl,hb,hl,hm,hmm,hx,hi⟩
 ·exact⟨[],fun _ h=>(by cases h),Nat.zero_le _,RelL.cons (.emp _ _ _ (fun h=>by cases h) (Nat.zero_le _)) RelL.nil⟩
 ·have hlm:len≤m:=by rw[hmm];split<;>omega
  have hex: ∀i:Nat,∃a:Option α,i<len→ ∃a',a=some a'∧good a'∧ ∃cs',W.cells? base (ad.add (i*P.cellsOf e)) (P.cellsOf e)=some cs'∧RelL (Old W) W (enc' a') cs':=fun i=>by
   by_cases hil:i<len
   ·obtain⟨cs',hc,htr⟩:=hi i (by omega)
    obtain⟨_,hcl,_⟩:=World.cells?_some hc
    obtain⟨a,hg,hr⟩:=he _ _ _ hcl htr
    exact⟨some a,fun _=>⟨a,rfl,hg,cs',hc,hr⟩⟩
   ·exact⟨none,fun h=>absurd h hil⟩
  obtain⟨f,hf⟩:=Classical.axiomOfChoice hex
  by_cases hlen0:len=0
  ·subst hlen0
   exact⟨[],fun _ h=>(by cases h),Nat.zero_le _,RelL.cons (.emp _ _ _ (fun h=>by cases h) hm) RelL.nil⟩
  ·obtain⟨a0,_,_⟩:=hf 0 (by omega)
   let g:Nat→α:=fun i=>(f i).getD a0
   have hg: ∀i,i<len→good (g i)∧ ∃cs',W.cells? base (ad.add (i*P.cellsOf e)) (P.cellsOf e)=some cs'∧RelL (Old W) W (enc' (g i)) cs':=fun i hi'=>by
    obtain⟨a',ha',h1,h2⟩:=hf i hi'
    have:g i=a':=by simp[g,ha']
    rw[this];exact⟨h1,h2⟩
   have hflat: ∀(len:Nat),(((List.range len).map g).flatMap enc').length=len*P.cellsOf e:=by
    intro len
    induction len with
    |zero=>simp
    |succ k ih=>rw[List.range_succ,List.map_append,List.flatMap_append,cH,ih];simp[hsz,Nat.add_mul]
   have hflatget: ∀(len i j:Nat),i<len→j<P.cellsOf e→(((List.range len).map g).flatMap enc')[i*P.cellsOf e+j]? =(enc' (g i))[j]? :=by
    intro len
    induction len with
    |zero=>intro i j h;omega
    | succ k ih=>
     intro i j h hj
     rw[List.range_succ,List.map_append,List.flatMap_append,List.getElem?_append]
     by_cases hik:i<k
     ·have h1:(i+1)*P.cellsOf e≤k*P.cellsOf e:=Nat.mul_le_mul_right _ (by omega)
      rw[Nat.add_mul]at h1
      rw[if_pos (by rw[hflat];omega)]
      exact ih i j hik hj
     ·have:i=k:=by omega
      subst this
      rw[if_neg (by rw[hflat];omega),hflat]
      simp
   have hblk:ad.spot=none∧ad.block<W.heap.size:=by
    obtain⟨_,cs',hc,_⟩:=hg 0 (by omega)
    obtain⟨_,hcl,hat⟩:=World.cells?_some hc
    have h0:=hat 0 hpos
    simp only[Nat.zero_mul]at h0
    have h1:W.cell? ad≠none:=by
     intro hn
     rw[show(ad.add 0).add 0=ad by simp[Addr.add]]at h0
     rw[hn]at h0
     have:=(List.getElem?_eq_none_iff.1 h0.symm)
     omega
    refine⟨?_,?_⟩
    ·cases hsp:ad.spot with
     |none=>rfl
     |some _=>exfalso;apply h1;unfold World.cell?;split<;>simp[hsp]
    ·cases hc:W.cell? ad with
     |none=>exact absurd hc h1
     |some u=>exact World.block_lt_of_cell? W ad hc
   obtain⟨b,off,sp⟩:=ad
   obtain⟨rfl,hblt⟩:=hblk
   have hcell: ∀i j,i<len→j<P.cellsOf e→ ∃u,W.cell? ⟨b,off+(i*P.cellsOf e+j),none⟩=some u∧ ∃x,(enc' (g i))[j]? =some x∧RelV (Old W) W x u:=fun i j hi' hj=>by
    obtain⟨_,cs',hc,hr⟩:=hg i hi'
    obtain⟨_,hcl,hat⟩:=World.cells?_some hc
    have h0:=hat j hj
    rw[a0x,a0x]at h0
    have hjl:j<cs'.length:=by omega
    have hjx:j<(enc' (g i)).length:=by rw[hsz];exact hj
    refine⟨cs'[j],by rw[←Nat.add_assoc,h0];simp[hjl],(enc' (g i))[j],by simp[hjx],?_⟩
    have:=hr.2 j hjx
    simpa[hjl]using this
   refine⟨(List.range len).map g,fun a ha=> ?_,by simp;omega,RelL.cons ?_ RelL.nil⟩
   ·obtain⟨i,hi',rfl⟩:=List.mem_map.1 ha
    exact(hg i (List.mem_range.1 hi')).1
   ·rw[List.length_map,List.length_range]
    have hq: ∀j,j<(((List.range len).map g).flatMap enc').length→ ∃u,W.cell? ⟨b,off+j,none⟩=some u∧ ∃x,(((List.range len).map g).flatMap enc')[j]? =some x∧RelV (Old W) W x u:=fun j hj=>by
     rw[hflat]at hj
     have h1:j/P.cellsOf e<len:=(Nat.div_lt_iff_lt_mul hpos).2 hj
     have h2:=Nat.mod_lt j hpos
     have h3:j/P.cellsOf e*P.cellsOf e+j%P.cellsOf e=j:=by rw[Nat.mul_comm];exact Nat.div_add_mod j _
     obtain⟨u,hu,x,hx',hr⟩:=hcell (j/P.cellsOf e) (j%P.cellsOf e) h1 h2
     rw[h3]at hu
     refine⟨u,hu,x,?_,hr⟩
     have:=hflatget len _ _ h1 h2
     rw[h3]at this
     rw[this,hx']
    refine .ro false len _ b off cap (fun j=>(W.cell? ⟨b,off+j,none⟩).getD undef) hblt (fun j hj=> ?_) (fun j hj=> ?_) hl hm (fun h=>by cases h)
    ·obtain⟨u,hu,_⟩:=hq j hj
     rw[hu];rfl
    ·obtain⟨u,hu,x,hx',hr⟩:=hq j hj
     rw[hu]
     simp only[Option.getD_some]
     have:x=(((List.range len).map g).flatMap enc')[j]:=by
      rw[List.getElem?_eq_getElem hj]at hx';exact(Option.some.inj hx').symm
     rw[←this];exact hr
theorem h0b {α:Type}(f:α→AV)(l:List α):l.flatMap (fun a=> [f a])=l.map f:=by
 induction l with
 |nil=>rfl
 |cons a l ih=>simp[List.flatMap_cons,ih]
theorem j0y {base:Nat}{spare:Nat→Bool}{held:Bool}{t e:TypeId}{k:IntKind}(ht:P.underlying t=some (.slice e))(he:P.underlying e=some (.int k))(h1:P.cellsOf e=1){n:Nat}{cs:List Value}{x:DataW H×List MemPlace}(h:DataW.trod enc P W base spare held n t cs=some x):
  ∃l:List Int,(∀z∈l,(Lit.int k z).wf=true)∧l.length≤maxLen∧RelL (Old W) W [.ro false l.length (c0m k l)] cs:=by
 obtain⟨l,h2,h3,h4⟩:=h0x (enc':=fun z:Int=> [.val (.int k z)]) (good:=fun z=>(Lit.int k z).wf=true) ht (fun _=>h1.symm) (by omega) (fun n cs x _ h=>l0T he h) h
 rw[h0b]at h4
 exact⟨l,h2,h3,h4⟩
theorem k0T {base:Nat}{spare:Nat→Bool}{held:Bool}{t e:TypeId}(ht:P.underlying t=some (.slice e))(he:P.underlying e=some (.int .u8))(h1:P.cellsOf e=1){n:Nat}{cs:List Value}{x:DataW H×List MemPlace}(h:DataW.trod enc P W base spare held n t cs=some x):
  ∃l:List UInt8,l.length≤maxLen∧RelL (Old W) W [roB l] cs:=by
 obtain⟨l,h2,h3,h4⟩:=j0y ht he h1 h
 have hb: ∃m:List UInt8,l=m.map fun b=>((b.toNat:Nat):Int):=by
  clear h h3 h4
  induction l with
  |nil=>exact⟨[],rfl⟩
  |cons z l ih=>
   obtain⟨m,rfl⟩:=ih fun z hz=>h2 z (List.mem_cons_of_mem _ hz)
   have hz:=h2 z (List.mem_cons_self ..)
   have hz':0≤z∧z≤255:=by simpa[Lit.wf,IntKind.min,IntKind.max,IntKind.signed,IntKind.bits]using hz
   refine⟨UInt8.ofNat z.toNat::m,?_⟩
   simp only[List.map_cons,List.cons.injEq,and_true]
   rw[UInt8.toNat_ofNat_of_lt' (by simp[UInt8.size];omega)]
   omega
 obtain⟨m,rfl⟩:=hb
 refine⟨m,by simpa using h3,?_⟩
 simpa[roB,a0a,c0m,Function.comp_def]using h4
theorem g0J {R:Nat→Prop}{a:AV}{v:Value}(hc:v.cells.toList= [v])(h:RelL R W [a] v.cells.toList):RelV R W a v:=by
 rw[hc]at h
 obtain⟨u,r,he,h1,_⟩:=h.uncons
 cases he
 exact h1
theorem g0K {R:Nat→Prop}{xs:List AV}{cs:Array Value}(h:RelL R W xs (Value.agg cs).cells.toList):RelV R W (.agg xs) (.agg cs):=by
 have:=h.toAgg
 simpa[Value.cells]using this
end
end Go.Proofs.YtojomcdjcpmnkaaGreat.A
namespace Go.Proofs.YtojomcdjcpmnkaaGreat.A
open Go.ChangeShapes Go.WideShapes Go.ChangeAt Go.RowKit L
section
variable {P:Program}
def Reads (P:Program)(t:TypeId)(φ:AV→Prop):Prop:=
 ∀(H:Type) (enc:TypeId×Value→H) (W:World) (base b0:Nat) (spare:Nat→Bool) (held:Bool) (v:Value) (d:DataW H) (p:List MemPlace),
  Value.okWide P W .any b0 t v→DataW.Trod enc P W base spare held t v d p→ ∃x,φ x∧RelV (Old W) W x v
structure RdC (P:Program) (t:TypeId) {α:Type} (f:α→List AV) (good:α→Prop):Prop where
 len: ∀a,(f a).length=P.cellsOf t
 rd: ∀(H:Type) (enc:TypeId×Value→H) (W:World) (base:Nat) (spare:Nat→Bool) (held:Bool) (n:Nat) (cs:List Value) (x:DataW H×List MemPlace),
  DataW.trod enc P W base spare held n t cs=some x→ ∃a,good a∧RelL (Old W) W (f a) cs
theorem n0i {W:World}{r:Reach}{b:Nat}{t:TypeId}{k:IntKind}(ht:P.underlying t=some (.int k)){v:Value}(h:Value.okWide P W r b t v):v.cells.toList= [v]:=by
 cases v<;>simp[Value.okWide,ht,Cell.okWide,Cell.ok]at h<;>rfl
theorem e0b {W:World}{r:Reach}{b:Nat}{t e:TypeId}(ht:P.underlying t=some (.slice e)){v:Value}(h:Value.okWide P W r b t v):v.cells.toList= [v]:=by
 cases v<;>simp[Value.okWide,ht,Cell.okWide,Cell.ok]at h<;>rfl
theorem l0f {W:World}{r:Reach}{b:Nat}{t:TypeId}(ht:P.underlying t=some .bool){v:Value}(h:Value.okWide P W r b t v):v.cells.toList= [v]:=by
 cases v<;>simp[Value.okWide,ht,Cell.okWide,Cell.ok]at h<;>rfl
theorem RelL.glue {R:Nat→Prop}{W:World}{xs ys:List AV}{cs:List Value}{o k:Nat}(h1:RelL R W xs ((cs.drop o).take k))(h2:RelL R W ys (cs.drop (o+k))):RelL R W (xs++ys) (cs.drop o):=by
 have:=h1.app h2
 rwa [show(cs.drop o).take k++cs.drop (o+k)=cs.drop o by rw[←List.drop_drop,List.take_append_drop]]at this
theorem RdC.int {t:TypeId}{k:IntKind}(ht:P.underlying t=some (.int k))(h1:P.cellsOf t=1):RdC P t (fun z:Int=> [.val (.int k z)]) (fun z=>(Lit.int k z).wf=true):=
 ⟨fun _=>h1.symm,fun H enc W base spare held n cs x h=>l0T ht h⟩
theorem RdC.bool {t:TypeId}(ht:P.underlying t=some .bool)(h1:P.cellsOf t=1):RdC P t (fun z:Bool=> [.val (.bool z)]) (fun _=>True):=
 ⟨fun _=>h1.symm,fun H enc W base spare held n cs x h=>by
  obtain⟨b,rfl,_⟩:=DataW.trod_bool ht h
  exact⟨b,trivial,RelL.cons (.val _) RelL.nil⟩⟩
theorem RdC.string {t:TypeId}(ht:P.underlying t=some .string)(h1:P.cellsOf t=1):RdC P t (fun s:ByteArray=> [.val (.string s)]) (fun s=>s.size≤maxLen):=
 ⟨fun _=>h1.symm,fun H enc W base spare held n cs x h=>by
  obtain⟨b,rfl,_,hs⟩:=DataW.trod_string ht h
  exact⟨b,hs,RelL.cons (.val _) RelL.nil⟩⟩
theorem RdC.slice {t e:TypeId}{α:Type}{f:α→List AV}{good:α→Prop}(ht:P.underlying t=some (.slice e))(h1:P.cellsOf t=1)(hpos:0<P.cellsOf e)(h:RdC P e f good):
  RdC P t (fun l:List α=> [.ro false l.length (l.flatMap f)]) (fun l=>(∀a∈l,good a)∧l.length≤maxLen):=
 ⟨fun _=>h1.symm,fun H enc W base spare held n cs x hx=>by
  obtain⟨l,h2,h3,h4⟩:=h0x ht h.len hpos (fun n cs x _ hx=>h.rd H enc W base spare held n cs x hx) hx
  exact⟨l,⟨h2,h3⟩,h4⟩⟩
theorem RdC.bytes {t e:TypeId}(ht:P.underlying t=some (.slice e))(he:P.underlying e=some (.int .u8))(h1:P.cellsOf t=1)(h2:P.cellsOf e=1):RdC P t (fun l:List UInt8=> [roB l]) (fun l=>l.length≤maxLen):=
 ⟨fun _=>h1.symm,fun H enc W base spare held n cs x hx=>k0T ht he h2 hx⟩
theorem RdC.ints {t e:TypeId}{k:IntKind}(ht:P.underlying t=some (.slice e))(he:P.underlying e=some (.int k))(h1:P.cellsOf t=1)(h2:P.cellsOf e=1):
  RdC P t (fun l:List Int=> [.ro false l.length (c0m k l)]) (fun l=>(∀z∈l,(Lit.int k z).wf=true)∧l.length≤maxLen):=
 ⟨fun _=>h1.symm,fun H enc W base spare held n cs x hx=>by
  obtain⟨l,h3,h4,h5⟩:=j0y ht he h2 hx
  exact⟨l,⟨h3,h4⟩,h5⟩⟩
structure FR (P:Program) (fs:List Field) (o m:Nat) {α:Type} (f:α→List AV) (good:α→Prop):Prop where
 len: ∀a,(f a).length=m
 rd: ∀(H:Type) (enc:TypeId×Value→H) (W:World) (base:Nat) (spare:Nat→Bool) (held:Bool) (cs:List Value),cs.length=o+m→
  (∀fd∈fs,∃(n:Nat) (y:DataW H×List MemPlace),DataW.trod enc P W base spare held n fd.type ((cs.drop fd.offset).take (P.cellsOf fd.type))=some y)→ ∃a,good a∧RelL (Old W) W (f a) (cs.drop o)
theorem FR.nil {o:Nat}:FR P [] o 0 (fun _:Unit=> []) (fun _=>True):=
 ⟨fun _=>rfl,fun H enc W base spare held cs hl _=>⟨(),trivial,by rw[List.drop_of_length_le (by omega)];exact RelL.nil⟩⟩
theorem FR.cons {fd:Field}{fs:List Field}{o k m:Nat}{α β:Type}{f:α→List AV}{good:α→Prop}{g:β→List AV}{good':β→Prop}(h:RdC P fd.type f good)(ho:fd.offset=o)(hk:P.cellsOf fd.type=k)(hs:FR P fs (o+k) m g good'):
  FR P (fd::fs) o (k+m) (fun p:α×β=>f p.1++g p.2) (fun p=>good p.1∧good' p.2):=
 ⟨fun p=>by rw[cH,h.len,hs.len,hk],fun H enc W base spare held cs hl hall=>by
  obtain⟨n,y,h1⟩:=hall fd (List.mem_cons_self ..)
  rw[ho,hk]at h1
  obtain⟨a,h2,h3⟩:=h.rd H enc W base spare held _ _ _ h1
  obtain⟨b,h4,h5⟩:=hs.rd H enc W base spare held cs (by omega) (fun fd hfd=>hall fd (List.mem_cons_of_mem _ hfd))
  exact⟨(a,b),⟨h2,h4⟩,RelL.glue h3 h5⟩⟩
theorem RdC.struct {t:TypeId}{fs:List Field}{m:Nat}{α:Type}{f:α→List AV}{good:α→Prop}(ht:P.underlying t=some (.struct fs.toArray))(hm:P.cellsOf t=m)(h:FR P fs 0 m f good):RdC P t f good:=
 ⟨fun a=>by rw[h.len,hm],fun H enc W base spare held n cs x hx=>by
  obtain⟨xs,n',_,_,hl,hlen,hf⟩:=DataW.trod_struct ht hx
  obtain⟨a,h1,h2⟩:=h.rd H enc W base spare held cs (by omega) (fun fd hfd=>by
   obtain⟨i,hi,rfl⟩:=List.getElem_of_mem hfd
   have h0:=hf i fs[i] (by simp[hi])
   have hxi:i<xs.length:=by rw[hlen];simpa using hi
   rw[List.getElem?_eq_getElem hxi]at h0
   exact⟨n',_,h0⟩)
  exact⟨a,h1,by simpa using h2⟩⟩
theorem RdC.map {t:TypeId}{α β:Type}{f:α→List AV}{good:α→Prop}{g:β→List AV}{good':β→Prop}(h:RdC P t f good)(φ:α→β)(hφ: ∀a,good a→good' (φ a)∧f a=g (φ a))(hl: ∀b,(g b).length=P.cellsOf t):RdC P t g good':=
 ⟨hl,fun H enc W base spare held n cs x hx=>by
  obtain⟨a,h1,h2⟩:=h.rd H enc W base spare held n cs x hx
  exact⟨φ a,(hφ a h1).1,(hφ a h1).2▸h2⟩⟩
theorem RdC.reads {t:TypeId}{α:Type}{f:α→List AV}{good:α→Prop}(h:RdC P t f good)(g:α→AV)(hg: ∀a,f a= [g a])(hw: ∀(W:World) (b:Nat) (v:Value),Value.okWide P W .any b t v→v.cells.toList= [v]):Reads P t (fun x=> ∃a,good a∧x=g a):=
 fun H enc W base b0 spare held v d p hv ⟨n,hx⟩=>by
  obtain⟨a,h1,h2⟩:=h.rd H enc W base spare held n _ _ hx
  rw[hg]at h2
  exact⟨g a,⟨a,h1,rfl⟩,g0J (hw _ _ _ hv) h2⟩
theorem RdC.readsAgg {t:TypeId}{α:Type}{f:α→List AV}{good:α→Prop}(h:RdC P t f good)(hw: ∀(W:World) (b:Nat) (v:Value),Value.okWide P W .any b t v→ ∃cs,v= .agg cs):Reads P t (fun x=> ∃a,good a∧x= .agg (f a)):=
 fun H enc W base b0 spare held v d p hv ⟨n,hx⟩=>by
  obtain⟨cs,rfl⟩:=hw _ _ _ hv
  obtain⟨a,h1,h2⟩:=h.rd H enc W base spare held n _ _ hx
  exact⟨.agg (f a),⟨a,h1,rfl⟩,g0K h2⟩
theorem Reads.int {t:TypeId}{k:IntKind}(ht:P.underlying t=some (.int k))(h1:P.cellsOf t=1):Reads P t (fun x=> ∃z:Int,(Lit.int k z).wf=true∧x= .val (.int k z)):=(RdC.int ht h1).reads (fun z=> .val (.int k z)) (fun _=>rfl) (fun _ _ _ h=>n0i ht h)
theorem Reads.bool {t:TypeId}(ht:P.underlying t=some .bool)(h1:P.cellsOf t=1):Reads P t (fun x=> ∃z:Bool,True∧x= .val (.bool z)):=(RdC.bool ht h1).reads (fun z=> .val (.bool z)) (fun _=>rfl) (fun _ _ _ h=>l0f ht h)
theorem Reads.bytes {t e:TypeId}(ht:P.underlying t=some (.slice e))(he:P.underlying e=some (.int .u8))(h1:P.cellsOf t=1)(h2:P.cellsOf e=1):Reads P t (fun x=> ∃l:List UInt8,l.length≤maxLen∧x=roB l):=(RdC.bytes ht he h1 h2).reads roB (fun _=>rfl) (fun _ _ _ h=>e0b ht h)
theorem Reads.ints {t e:TypeId}{k:IntKind}(ht:P.underlying t=some (.slice e))(he:P.underlying e=some (.int k))(h1:P.cellsOf t=1)(h2:P.cellsOf e=1):
  Reads P t (fun x=> ∃l:List Int,((∀z∈l,(Lit.int k z).wf=true)∧l.length≤maxLen)∧x= .ro false l.length (c0m k l)):=(RdC.ints ht he h1 h2).reads (fun l=> .ro false l.length (c0m k l)) (fun _=>rfl) (fun _ _ _ h=>e0b ht h)
theorem Reads.slice {t e:TypeId}{α:Type}{f:α→List AV}{good:α→Prop}(ht:P.underlying t=some (.slice e))(h1:P.cellsOf t=1)(hpos:0<P.cellsOf e)(h:RdC P e f good):
  Reads P t (fun x=> ∃l:List α,((∀a∈l,good a)∧l.length≤maxLen)∧x= .ro false l.length (l.flatMap f)):=(RdC.slice ht h1 hpos h).reads (fun l=> .ro false l.length (l.flatMap f)) (fun _=>rfl) (fun _ _ _ h=>e0b ht h)
def ReadsL (P:Program):List TypeId→List (AV→Prop)→Prop
 | [],[]=>True
 |t::ts,φ::φs=>Reads P t φ∧ReadsL P ts φs
 |_,_=>False
theorem ReadsL.nil:ReadsL P [] []:=trivial
theorem ReadsL.cons {t:TypeId}{ts:List TypeId}{φ:AV→Prop}{φs:List (AV→Prop)}(h:Reads P t φ)(hs:ReadsL P ts φs):ReadsL P (t::ts) (φ::φs):=⟨h,hs⟩
def n0U:List (AV→Prop)→(List AV→Prop)→Prop
 | [],K=>K []
 |φ::φs,K=> ∀x,φ x→n0U φs (fun xs=>K (x::xs))
theorem j0x {H:Type}{enc:TypeId×Value→H}{W:World}{base b0:Nat}{spare:Nat→Bool}{held:Bool}: ∀{ts:List TypeId} {φs:List (AV→Prop)} {K:List AV→Prop} {vs:List Value} {ds:List (DataW H)} {ps:List MemPlace},
  ReadsL P ts φs→n0U φs K→(∀(j:Nat) t v,ts[j]? =some t→vs[j]? =some v→Value.okWide P W .any b0 t v)→DataW.TrodAll enc P W base spare held ts vs ds ps→ ∃xs,K xs∧RelL (Old W) W xs vs
 | [],[],K,vs,ds,ps,_,hK,_,hT=>by
  obtain⟨rfl,_,_⟩:=trodAll_nil hT
  exact⟨[],hK,RelL.nil⟩
 | [],_::_,_,_,_,_,h,_,_,_=>h.elim
 |_::_,[],_,_,_,_,h,_,_,_=>h.elim
 |t::ts,φ::φs,K,vs,ds,ps,h,hK,hv,hT=>by
  obtain⟨v0,vs0,d0,ds0,p0,q0,rfl,rfl,rfl,h0,r0⟩:=trodAll_cons hT
  obtain⟨x,h1,h2⟩:=h.1 H enc W base b0 spare held v0 d0 p0 (hv 0 t v0 rfl rfl) h0
  obtain⟨xs,h3,h4⟩:=j0x h.2 (hK x h1) (fun j t v a b=>hv (j+1) t v a b) r0
  exact⟨x::xs,h3,RelL.cons h2 h4⟩
end
theorem g0g {f:FuncId}{fn:Func}{s:ChangeSpec}{H:Type}(enc:TypeId×Value→H){ts:List TypeId}{φs:List (AV→Prop)}(hp:fn.params.toList=ts)(hr:ReadsL Tryz.prog ts φs)
  (h:n0U φs fun xs=>Sp Tryz.prog f xs [] (Is (.val (.bool true)))) {W:World} {base:Nat} {args:Array Value} {ds gs:List (DataW H)} {before:List MemPlace}
  (hval: ∀(j:Nat) t v,fn.params[j]? =some t→args[j]? =some v→Value.okWide Tryz.prog W .any base t v)
  (hW:DataW.Whole enc Tryz.prog fn.params.toList s.vars false W args.toList ds gs before)
  (post: ∀W',Ext W W'→s.post enc Tryz.prog fn false true false false W args (.bool true) W'):
  Calls Tryz.prog f args W fun e W'=> ∃v,e= .returned v∧s.post enc Tryz.prog fn false true false false W args v W':=by
 obtain⟨p,q,hA,hV,rfl,hfz,hnd⟩:=hW
 rw[hp]at hA
 obtain⟨xs,hS,hR⟩:=j0x (b0:=base) hr h (fun j t v h1 h2=>hval j t v (by rw[←Array.getElem?_toList,hp];exact h1) (by rw[←Array.getElem?_toList];exact h2)) hA
 have hc:=hS W (Old W) args.toList (fun b hb=>hb) (fun e he=>by cases he) .nil hR
 rw[Array.toArray_toList]at hc
 refine hc.mono ?_
 rintro e W' ⟨u,r,H',R',rfl,⟨rfl,rfl⟩,hs,hv⟩
 obtain rfl:=hv.val_inv
 exact⟨_,rfl,post W' (hs.mods.mono fun b _ ⟨e,he,_⟩=>by cases he)⟩
end Go.Proofs.YtojomcdjcpmnkaaGreat.A
namespace Go.Proofs.YtojomcdjcpmnkaaGreat.By
open Go.RowKit L A
theorem i64_in {z:Int}(h:(Lit.int .i64 z).wf=true): -9223372036854775808≤z∧z≤9223372036854775807:=by
 simpa[Lit.wf,IntKind.min,IntKind.max,IntKind.signed,IntKind.bits]using h
def p0E (o:Opt):Prop:=(Lit.int .i64 o.num).wf=true∧o.val.length≤maxLen
def q0U (m:Msg):Prop:=((Lit.int .i64 m.ty).wf=true∧(Lit.int .i64 m.code).wf=true∧(Lit.int .i64 m.id).wf=true)∧m.tok.length≤maxLen∧((∀o∈m.opts,p0E o)∧m.opts.length≤maxLen)∧m.pay.length≤maxLen
theorem q0e:RdC Tryz.prog 96 k0p p0E:=
 (RdC.struct Tryz.underlying96 (by kernel_rfl)
  (.cons (k:=1) (RdC.int Tryz.underlying3 (by kernel_rfl)) rfl (by kernel_rfl)
  (.cons (k:=1) (RdC.bytes Tryz.underlying22 Tryz.underlying5 (by kernel_rfl) (by kernel_rfl)) rfl (by kernel_rfl) .nil))).map
  (fun p=>⟨p.1,p.2.1⟩) (fun p h=>⟨⟨h.1,h.2.1⟩,rfl⟩) (fun _=>by show 2=_;kernel_rfl)
theorem q0f:RdC Tryz.prog 29 p0q q0U:=
 (RdC.struct Tryz.underlying29 (by kernel_rfl)
  (.cons (k:=1) (RdC.int Tryz.underlying3 (by kernel_rfl)) rfl (by kernel_rfl)
  (.cons (k:=1) (RdC.int Tryz.underlying3 (by kernel_rfl)) rfl (by kernel_rfl)
  (.cons (k:=1) (RdC.int Tryz.underlying3 (by kernel_rfl)) rfl (by kernel_rfl)
  (.cons (k:=1) (RdC.bytes Tryz.underlying22 Tryz.underlying5 (by kernel_rfl) (by kernel_rfl)) rfl (by kernel_rfl)
  (.cons (k:=1) (RdC.slice Tryz.underlying27 (by kernel_rfl) (of_decide_eq_true (by kernel_rfl)) q0e) rfl (by kernel_rfl)
  (.cons (k:=1) (RdC.bytes Tryz.underlying22 Tryz.underlying5 (by kernel_rfl) (by kernel_rfl)) rfl (by kernel_rfl) .nil))))))).map
  (fun p=>⟨p.1,p.2.1,p.2.2.1,p.2.2.2.1,p.2.2.2.2.1,p.2.2.2.2.2.1⟩) (fun p h=>⟨⟨⟨h.1,h.2.1,h.2.2.1⟩,h.2.2.2.1,h.2.2.2.2.1,h.2.2.2.2.2.1⟩,rfl⟩) (fun _=>by show 6=_;kernel_rfl)
end Go.Proofs.YtojomcdjcpmnkaaGreat.By
namespace Go.Proofs.YtojomcdjcpmnkaaGreat.By
open Go.RowKit Go.Deep L A
abbrev p0F (x:Inp):Prop:=x.sec.length≤maxLen∧x.salt.length≤maxLen∧x.ctx.length≤maxLen∧x.snd.length≤maxLen∧x.rcp.length≤maxLen
abbrev q0T (c:Cx):Prop:=p0F c.inp∧c.sk.length≤maxLen∧c.rk.length≤maxLen∧c.com.length≤maxLen
abbrev p0G (b:Bd):Prop:=b.ctx.length≤maxLen∧b.kid.length≤maxLen∧(Lit.int .i64 b.piv).wf=true
theorem q0g:RdC Tryz.prog 24 cI p0F:=
 (RdC.struct Tryz.underlying24 (by kernel_rfl)
  (.cons (k:=1) (RdC.bytes Tryz.underlying22 Tryz.underlying5 (by kernel_rfl) (by kernel_rfl)) rfl (by kernel_rfl)
  (.cons (k:=1) (RdC.bytes Tryz.underlying22 Tryz.underlying5 (by kernel_rfl) (by kernel_rfl)) rfl (by kernel_rfl)
  (.cons (k:=1) (RdC.bool Tryz.underlying4 (by kernel_rfl)) rfl (by kernel_rfl)
  (.cons (k:=1) (RdC.bytes Tryz.underlying22 Tryz.underlying5 (by kernel_rfl) (by kernel_rfl)) rfl (by kernel_rfl)
  (.cons (k:=1) (RdC.bytes Tryz.underlying22 Tryz.underlying5 (by kernel_rfl) (by kernel_rfl)) rfl (by kernel_rfl)
  (.cons (k:=1) (RdC.bytes Tryz.underlying22 Tryz.underlying5 (by kernel_rfl) (by kernel_rfl)) rfl (by kernel_rfl) .nil))))))).map
  (fun p=>⟨p.1,p.2.1,p.2.2.1,p.2.2.2.1,p.2.2.2.2.1,p.2.2.2.2.2.1⟩) (fun p h=>⟨⟨h.1,h.2.1,h.2.2.2.1,h.2.2.2.2.1,h.2.2.2.2.2.1⟩,rfl⟩) (fun _=>by show 6=_;kernel_rfl)
theorem r0z:RdC Tryz.prog 26 cX q0T:=
 (RdC.struct Tryz.underlying26 (by kernel_rfl)
  (.cons (k:=6) q0g rfl (by kernel_rfl)
  (.cons (k:=1) (RdC.bytes Tryz.underlying22 Tryz.underlying5 (by kernel_rfl) (by kernel_rfl)) rfl (by kernel_rfl)
  (.cons (k:=1) (RdC.bytes Tryz.underlying22 Tryz.underlying5 (by kernel_rfl) (by kernel_rfl)) rfl (by kernel_rfl)
  (.cons (k:=1) (RdC.bytes Tryz.underlying22 Tryz.underlying5 (by kernel_rfl) (by kernel_rfl)) rfl (by kernel_rfl) .nil))))).map
  (fun p=>⟨p.1,p.2.1,p.2.2.1,p.2.2.2.1⟩) (fun p h=>⟨⟨h.1,h.2.1,h.2.2.1,h.2.2.2.1⟩,rfl⟩) (fun _=>by show 9=_;kernel_rfl)
theorem r0A:RdC Tryz.prog 42 cBd p0G:=
 (RdC.struct Tryz.underlying42 (by kernel_rfl)
  (.cons (k:=1) (RdC.bytes Tryz.underlying22 Tryz.underlying5 (by kernel_rfl) (by kernel_rfl)) rfl (by kernel_rfl)
  (.cons (k:=1) (RdC.bytes Tryz.underlying22 Tryz.underlying5 (by kernel_rfl) (by kernel_rfl)) rfl (by kernel_rfl)
  (.cons (k:=1) (RdC.int Tryz.underlying3 (by kernel_rfl)) rfl (by kernel_rfl) .nil)))).map
  (fun p=>⟨p.1,p.2.1,p.2.2.1⟩) (fun p h=>⟨⟨h.1,h.2.1,h.2.2.1⟩,rfl⟩) (fun _=>by show 3=_;kernel_rfl)
end Go.Proofs.YtojomcdjcpmnkaaGreat.By
