/-
  Texts laid together (part 3): what the statement's walk and plain law need. No condition.
-/
import Derived.Test.YtojomcdjcpmnkaaGreatZn2
set_option linter.unusedVariables false
set_option linter.unusedSimpArgs false
set_option maxRecDepth 20000
set_option maxHeartbeats 4000000
namespace Go.Proofs.YtojomcdjcpmnkaaGreat.By
open Go.RowKit L A
attribute [local irreducible] AW AQ AO
def s0i:It→Prop
 | .mk k n b l=>l= []∧((k=0∨k=7)∧0≤n∧n<24∧b= []∨(k=2∨k=3)∧n=0∧b.length<24)
def okX:Nat→It→Prop
 |0,x=>s0i x
 |d+1,x=>s0i x∨match x with| .mk k n b l=>k=4∧n=0∧b= []∧l.length<24∧ ∀y∈l,okX d y
theorem e0S (k n:Int)(hk:0≤k∧k≤7)(hn:0≤n∧n<24):Sp Tryz.prog 166 [.val (.int .i64 k),.val (.int .u64 n)] [] (b0e 5 1 1 (a0a [u8 (32*k+n)])):=by
 have e:32*k+n=((u8 (32*k+n)).toNat:Int):=by rw[a0I (by omega)]
 have e2:a0e (a0t 1 (Value.int IntKind.u8 0)) (0*1) (AV.val (Value.int IntKind.u8 (32*k+n))).cells=a0a [u8 (32*k+n)]:=by
  show [AV.val (.int .u8 (32*k+n))]= [AV.val (.int .u8 ((u8 (32*k+n)).toNat:Int))]
  rw[←e]
 refine yH Tryz.func166 _ Tryz.ntmps166 (fun w0 R0=> ?_)
 refine zC (zq ?_)
 refine zc (zH (zn (zC (zq ?_))))
 refine zb ?_
 refine wL ?_
 refine zx ?_
 refine vO (O.conv rfl rfl (by exact wU8 (by omega))) ?_
 refine zU ?_
 intro B1
 refine AO.g ?_
 refine xK B1 1 1 0 rfl rfl rfl (Nat.le_refl _) ?_
 refine AO.u ?_
 dsimp only[List.set]
 refine zc (zH (zn (zC (zq ?_))))
 refine zc (zH (zn (zC (xb (zC (zq ?_))))))
 refine zb ?_
 refine vO (O.lss rfl rfl rfl (by exact n0X (by omega))) ?_
 refine zc (zH (zn ?_))
 refine AW.condT rfl (zC (zq ?_))
 refine zb ?_
 refine wL ?_
 refine vO (O.conv rfl rfl (by exact wU8 (by omega))) ?_
 refine zb ?_
 refine vO (O.conv rfl rfl (by exact wU8 (by omega))) ?_
 refine vO (O.add rfl rfl rfl (by exact wU8 (by omega))) ?_
 refine zU ?_
 intro B2
 refine zc (zH (zn (y3 ?_)))
 refine wg (xh ?_)
 refine AQ.g ?_
 refine G.closeRow (n:=1) (cap:=1) 0 rfl rfl rfl (Nat.le_refl _) (by(unfold maxLen;omega)) ?_
 refine AQ.u ?_
 dsimp only[List.set]
 rw[e2]
 refine vm rfl rfl ⟨_,by repeat(first|exact List.Sublist.slnil|refine List.Sublist.cons_cons _ ?_|refine List.Sublist.cons _ ?_),List.Perm.refl _⟩ (⟨_,rfl,rfl,rfl⟩)
theorem r0H (n:Int)(hn:0≤n∧n<24):Sp Tryz.prog 122 [.agg [.val (.int .i64 0),.val (.int .u64 n),roB [],.ro false 0 []]] [] (Is (roB [u8 (32*0+n)])):=by
 refine yH Tryz.func122 _ Tryz.ntmps122 (fun w0 R0=> ?_)
 refine zC (zq ?_)
 refine z9 ?_
 intro B1
 refine zc (zH (zn (zC (zq ?_))))
 refine zc (zH (zn (zC (zC (zq ?_)))))
 refine zt ?_
 refine zA (zH (zn (xb (zC (zC (zq ?_))))))
 refine vO (O.eql rfl rfl rfl (by exact beq_iff_eq.2 (by omega))) ?_
 refine zc (zH (zn ?_))
 refine AW.condT rfl (yU (zn ?_))
 refine AW.condT rfl (zC (zq ?_))
 refine zt ?_
 refine zA ?_
 refine zt ?_
 refine zA ?_
 refine vS (xD rfl Tryz.func166 rfl rfl rfl (e0S _ _ ⟨by omega,by omega⟩ ⟨by omega,by omega⟩)) ?_
 intro V2 hV2
 refine zc (zH (zn (y3 ?_)))
 refine wg (xh ?_)
 refine AQ.g ?_
 refine yj 0 [2] ?_
 refine AQ.u ?_
 try dsimp only[List.map,List.eraseIdx,cA,cN]
 refine yw
theorem r0G (n:Int)(hn:0≤n∧n<24):Sp Tryz.prog 122 [.agg [.val (.int .i64 7),.val (.int .u64 n),roB [],.ro false 0 []]] [] (Is (roB [u8 (32*7+n)])):=by
 have e:224+n=((u8 (32*7+n)).toNat:Int):=by rw[a0I (by omega)];omega
 refine yH Tryz.func122 _ Tryz.ntmps122 (fun w0 R0=> ?_)
 refine zC (zq ?_)
 refine z9 ?_
 intro B1
 refine zc (zH (zn (zC (zq ?_))))
 refine zc (zH (zn (zC (zC (zq ?_)))))
 refine zt ?_
 refine zA (zH (zn (xb (zC (zC (zq ?_))))))
 refine vO (O.eql rfl rfl rfl (by exact beq_eq_false_iff_ne.2 (by omega))) ?_
 refine zc (zH (zn ?_))
 refine AW.condF rfl (zq ?_)
 refine vO (O.eql rfl rfl rfl (by exact beq_eq_false_iff_ne.2 (by omega))) ?_
 refine zc (zH (zn ?_))
 refine AW.condF rfl (zC (zC (zq ?_)))
 refine vO (O.eql rfl rfl rfl (by exact beq_eq_false_iff_ne.2 (by omega))) ?_
 refine zc (zH (zn ?_))
 refine AW.condF rfl (zq ?_)
 refine vO (O.eql rfl rfl rfl (by exact beq_eq_false_iff_ne.2 (by omega))) ?_
 refine zc (zH (zn ?_))
 refine AW.condF rfl (zC (zq ?_))
 refine vO (O.eql rfl rfl rfl (by exact beq_eq_false_iff_ne.2 (by omega))) ?_
 refine zc (zH (zn ?_))
 refine AW.condF rfl (zC (zq ?_))
 refine vO (O.eql rfl rfl rfl (by exact beq_eq_false_iff_ne.2 (by omega))) ?_
 refine zc (zH (zn ?_))
 refine AW.condF rfl (zC (zq ?_))
 refine vO (O.eql rfl rfl rfl (by exact beq_eq_false_iff_ne.2 (by omega))) ?_
 refine zc (zH (zn ?_))
 refine AW.condF rfl (zC (zq ?_))
 refine vO (O.eql rfl rfl rfl (by exact beq_iff_eq.2 (by omega))) ?_
 refine zc (zH (zn ?_))
 refine AW.condT rfl (zC (zC (zq ?_)))
 refine zt ?_
 refine zA ?_
 refine vO (O.lss rfl rfl rfl (by exact n0X (by omega))) (zH (zn ?_))
 refine AW.condT rfl (zC (zq ?_))
 refine zt ?_
 refine zA ?_
 refine vO (O.add rfl rfl rfl (by exact o0n (by omega))) ?_
 refine vO (O.conv rfl rfl (by exact wU8 (by omega))) ?_
 refine zU ?_
 intro B2
 refine zc (zH (zn (y3 (xh ?_))))
 refine wg (xh ?_)
 refine AQ.g ?_
 refine G.freezeSl 0 2 rfl rfl ⟨Nat.le_refl _,by unfold maxLen;omega⟩ ?_;refine G.unfull 2 rfl ?_
 refine AQ.u ?_
 try dsimp only[List.map,List.eraseIdx,cA,cN]
 refine vm rfl rfl nS (⟨by show AV.ro false 1 [.val (.int .u8 (224+n))]=_;rw[e];rfl,rfl⟩)
theorem r0I (k:Int)(b:List UInt8)(hk:k=2∨k=3)(hb:b.length<24):Sp Tryz.prog 122 [.agg [.val (.int .i64 k),.val (.int .u64 0),roB b,.ro false 0 []]] [] (Is (roB (u8 (32*k+(b.length:Int))::b))):=by
 have e1:a0a [u8 (32*k+(b.length:Int))]++a0a b=a0a (u8 (32*k+(b.length:Int))::b):=rfl
 have e2:1+b.length=(u8 (32*k+(b.length:Int))::b).length:=by rw[cL];omega
 refine yH Tryz.func122 _ Tryz.ntmps122 (fun w0 R0=> ?_)
 refine zC (zq ?_)
 refine z9 ?_
 intro B1
 refine zc (zH (zn (zC (zq ?_))))
 refine zc (zH (zn (zC (zC (zq ?_)))))
 refine zt ?_
 refine zA (zH (zn (xb (zC (zC (zq ?_))))))
 refine vO (O.eql rfl rfl rfl (by exact beq_eq_false_iff_ne.2 (by omega))) ?_
 refine zc (zH (zn ?_))
 refine AW.condF rfl (zq ?_)
 refine vO (O.eql rfl rfl rfl (by exact beq_eq_false_iff_ne.2 (by omega))) ?_
 refine zc (zH (zn ?_))
 refine AW.condF rfl (zC (zC (zq ?_)))
 refine yi ?_
 refine zc (zH (zn ?_))
 rcases hk with rfl|rfl
 ·refine AW.condT rfl (yU (zn ?_))
  refine AW.condT rfl (zC ?_)
  refine yo 9 ?_
  simp only[cT,cZ,cD,cO]
  refine yn ?_
  refine yM ?_
  refine yn ?_
  refine yM ?_
  refine vP (xX rfl rfl) ?_
  refine vP (vl rfl rfl) ?_
  refine FA.opN (xD rfl Tryz.func166 rfl rfl rfl (e0S _ _ ⟨by omega,by omega⟩ ⟨by omega,by omega⟩)) rfl rfl rfl rfl ?_
  refine yn ?_
  refine yM ?_
  refine vf ?_
  simp only[a0g,cN,cA,cP]
  rintro _ _ ⟨V2,rfl,hV2,rfl⟩
  simp only[cA,cN]
  refine zF 0 ?_
  intro V3 hV3
  refine zc (zH (zn (y3 ?_)))
  refine wg (xh ?_)
  rw[e1,e2]
  refine AQ.g ?_
  refine yj 0 [2] ?_
  refine AQ.u ?_
  try dsimp only[List.map,List.eraseIdx,cA,cN]
  refine yw
 ·refine AW.condF rfl (zq ?_)
  refine vO (O.eql rfl rfl rfl (by exact beq_iff_eq.2 (by omega))) ?_
  refine zc (zH (zn ?_))
  refine AW.condT rfl (zC ?_)
  refine yo 9 ?_
  simp only[cT,cZ,cD,cO]
  refine yn ?_
  refine yM ?_
  refine yn ?_
  refine yM ?_
  refine vP (xX rfl rfl) ?_
  refine vP (vl rfl rfl) ?_
  refine FA.opN (xD rfl Tryz.func166 rfl rfl rfl (e0S _ _ ⟨by omega,by omega⟩ ⟨by omega,by omega⟩)) rfl rfl rfl rfl ?_
  refine yn ?_
  refine yM ?_
  refine vf ?_
  simp only[a0g,cN,cA,cP]
  rintro _ _ ⟨V2,rfl,hV2,rfl⟩
  simp only[cA,cN]
  refine zF 0 ?_
  intro V3 hV3
  refine zc (zH (zn (y3 ?_)))
  refine wg (xh ?_)
  rw[e1,e2]
  refine AQ.g ?_
  refine yj 0 [2] ?_
  refine AQ.u ?_
  try dsimp only[List.map,List.eraseIdx,cA,cN]
  refine yw
 skip
abbrev g0m (x:It):Prop:=Sp Tryz.prog 122 [.agg x.cells] [] (Is (roB x.enc))
theorem j0Z {x:It}(h:s0i x):g0m x:=by
 obtain⟨k,n,b,l⟩:=x
 unfold g0m
 rcases h with⟨rfl,⟨rfl|rfl,hn,hn2,rfl⟩|⟨hk,rfl,hb⟩⟩
 ·rw[d0e,It.cells,d0O]
  exact r0H n ⟨hn,hn2⟩
 ·rw[d0e,It.cells,d0O]
  exact r0G n ⟨hn,hn2⟩
 rw[d0e,It.cells,d0O,show hnI k 0 b 0=(b.length:Int)from if_pos hk]
 exact r0I k b hk hb
theorem r0F {l:List It}(hm:l.length<24)(he:(b0Y l).length≤100000)(hS: ∀q,q<l.length→g0m (o0k l q)):g0m (.mk 4 0 [] l):=by
 unfold g0m
 rw[j0k]
 show Sp Tryz.prog 122 [.agg [.val (.int .i64 4),.val (.int .u64 0),roB [],.ro false l.length (d0O l)]] [] _
 refine yH Tryz.func122 _ Tryz.ntmps122 (fun w0 R0=> ?_)
 refine zC (zq ?_)
 refine z9 ?_
 intro B1
 refine zc (zH (zn (zC (zq ?_))))
 refine zc (zH (zn (zC (zC (zq ?_)))))
 refine zt ?_
 refine zA (zH (zn (xb (zC (zC (zq ?_))))))
 refine vO (O.eql rfl rfl rfl (by exact beq_eq_false_iff_ne.2 (by omega))) ?_
 refine zc (zH (zn ?_))
 refine AW.condF rfl (zq ?_)
 refine vO (O.eql rfl rfl rfl (by exact beq_eq_false_iff_ne.2 (by omega))) ?_
 refine zc (zH (zn ?_))
 refine AW.condF rfl (zC (zC (zq ?_)))
 refine vO (O.eql rfl rfl rfl (by exact beq_eq_false_iff_ne.2 (by omega))) ?_
 refine zc (zH (zn ?_))
 refine AW.condF rfl (zq ?_)
 refine vO (O.eql rfl rfl rfl (by exact beq_eq_false_iff_ne.2 (by omega))) ?_
 refine zc (zH (zn ?_))
 refine AW.condF rfl (zC (zq ?_))
 refine vO (O.eql rfl rfl rfl (by exact beq_iff_eq.2 (by omega))) ?_
 refine zc (zH (zn ?_))
 refine AW.condT rfl (zq ?_)
 refine zt ?_
 refine zA ?_
 refine zZ ?_
 refine wd ?_
 refine vS (xD rfl Tryz.func166 rfl rfl rfl (e0S _ _ ⟨by omega,by omega⟩ ⟨by omega,by omega⟩)) ?_
 intro V2 hV2
 refine zc (zH (xA (zn (zC (zC (zq ?_))))))
 refine zt ?_
 refine zp ?_
 refine zZ ?_
 refine zb (zH (zn (xb ?_)))
 have hnl: ∀k,k≤l.length→(b0Y (l.take k)).length≤(b0Y l).length:=fun k hk=>by
  have h6:=congrArg List.length (f0K (l.take k) (l.drop k))
  rw[List.take_append_drop,cH]at h6
  omega
 obtain⟨h0,hh0⟩: ∃h0,h0=u8 (32*4+(l.length:Int)):=⟨_,rfl⟩
 rw[←hh0]
 refine zh [(67,_),(68,_)] (fun nn E H=> ∃(k:Nat) (V:Value) (o:List UInt8),(k≤l.length)∧(V.oneCell'=true)∧(o=h0::b0Y (l.take k))∧nn=l.length-k∧E= [(3,.val V),(69,.val (.int .i64 (k:Int)))]∧H= [.row V 5 1 o.length (a0a o),.blk B1 147 4 [.val (.int .i64 4),.val (.int .u64 0),roB [],.ro false l.length (d0O l)]]) _ (⟨0,_,[h0],by omega,‹_›,rfl,rfl,rfl,rfl⟩) ?_
 rintro nn E H ⟨k,V,o,hk,hV,ho,rfl,rfl,rfl⟩
 dsimp only[cA,cN]
 have hol:o.length=1+(b0Y (l.take k)).length:=by rw[ho,cL];omega
 have hkl:=hnl k hk
 refine zC (zq ?_)
 refine zR (zH (zn (zC ?_)))
 refine ym (fun hlt=> ?_) (fun hlt=> ?_)<;>(try simp only[vU]at hlt)
 ·have hkl:k<l.length:=by omega
  obtain⟨kk,nn',bb,ll,hx⟩: ∃kk nn' bb ll,o0k l k= .mk kk nn' bb ll:=by cases h:o0k l k;exact⟨_,_,_,_,rfl⟩
  have hg:((d0O l).drop (Int.toNat (k:Int)*4)).take 4= [.val (.int .i64 kk),.val (.int .u64 nn'),roB bb,.ro false ll.length (d0O ll)]:=by
   rw[t0V hkl (by omega),hx,It.cells]
  have hSk:=hS k hkl
  rw[hx]at hSk
  unfold g0m at hSk
  rw[It.cells]at hSk
  have hsn:=a0i itN hkl
  have e1:=g0J (l.take k) (o0k l k)
  rw[←hsn,hx]at e1
  have h5:=hnl (k+1) (by omega)
  have e2:=congrArg List.length e1
  rw[cH]at e2
  generalize(It.mk kk nn' bb ll).enc=en at*
  refine yU (zn (zC (xb (zC (zq ?_)))))
  refine yf ?_
  refine vO (O.loadRK rfl rfl (by exact hg) (by rfl)) ?_
  refine zd ?_
  intro B3
  refine za 0 (zH (zn (zq ?_)))
  refine zb ?_
  refine xW ?_
  refine vO (xD rfl Tryz.func122 rfl rfl rfl hSk) ?_
  refine zF 1 ?_
  intro V4 hV4
  refine zc (zH (xA (zn (zq ?_))))
  refine zx ?_
  refine zb (zH ?_)
  rw[show a0a o++a0a en=a0a (o++en)from(a0O _ _).symm,show o.length+en.length=(o++en).length from List.length_append.symm]
  refine zJ _ _ _ (by omega) (⟨k+1,_,o++en,by omega,‹_›,by rw[ho,e1];rfl,rfl,rfl,rfl⟩)
 obtain rfl:k=l.length:=by omega
 rw[List.take_length]at ho
 subst ho
 refine wm ?_
 refine xY ?_
 refine wa ?_
 refine xq (zn (zC (zq ?_)))
 refine zb ?_
 refine zc (zH (zn (y3 ?_)))
 refine AQ.g ?_
 refine yj 0 [2] ?_
 refine AQ.u ?_
 try dsimp only[List.map,List.eraseIdx,cA,cN]
 refine yw
theorem f0s: ∀(d:Nat) (x:It),okX d x→x.enc.length≤100000→g0m x
 |0,x,h,_=>j0Z h
 |d+1,.mk k n b l,h,he=>by
  rcases h with h|⟨rfl,rfl,rfl,h4,h5⟩
  ·exact j0Z h
  have he2:(b0Y l).length≤100000:=by rw[j0k,cL]at he;omega
  refine r0F h4 he2 fun q hq=>f0s d _ (h5 _ (b0d itN hq)) ?_
  have h6:=congrArg List.length (f0K (l.take q) (l.drop q))
  have h7:=congrArg List.length (g0J (l.take q) (o0k l q))
  have h8:=congrArg List.length (f0K (l.take (q+1)) (l.drop (q+1)))
  rw[←a0i itN hq]at h7
  rw[List.take_append_drop,cH]at h8
  rw[cH]at h7
  omega
end Go.Proofs.YtojomcdjcpmnkaaGreat.By
namespace Go.Proofs.YtojomcdjcpmnkaaGreat.A
open Go.RowKit L
section
variable {Γ:Cx}{P:Program}{Q:Exit→Act→World→Prop}{E:Env}{H:List HE}{N:Nat}{o:Oper}{ops:Array Oper}{rest:List Oper}
theorem d0H {R:Nat→Prop}{W:World}{a:Act}{low high:Option Operand}{n cap:Nat}{l h:Int}(ha:RelA N R W E a)(hl:c0A E low 0=some l)(hh:c0A E high n=some h)(h0:0≤l∧l≤h∧h≤cap):
  (Instr.sliceBounds false n cap (low.map a.eval) (high.map a.eval) none).run P W= .ok (l.toNat,h.toNat,cap) W:=by
 obtain⟨h1,h2,hhc⟩:=h0
 cases high with
 | none=>
  obtain rfl:(n:Int)=h:=by simpa[c0A]using hh
  cases low with
  |none=>
   obtain rfl:(0:Int)=l:=by simpa[c0A]using hl
   simp[Instr.sliceBounds]
  |some x=>
   obtain⟨k,hk⟩:=d0U ha hl
   simp[Instr.sliceBounds,Instr.sliceBound,hk,asIntOf,h1,h2]
 | some y=>
  obtain⟨k',hk'⟩:=d0U ha hh
  have h4:0≤h:=by omega
  cases low with
  |none=>
   obtain rfl:(0:Int)=l:=by simpa[c0A]using hl
   simp[Instr.sliceBounds,Instr.sliceBound,hk',asIntOf,h4,hhc]
  |some x=>
   obtain⟨k,hk⟩:=d0U ha hl
   have h5:l≤max h 0:=by omega
   simp[Instr.sliceBounds,Instr.sliceBound,hk,hk',asIntOf,h1,h4,hhc]
   omega
theorem O.sliceArr {T:Nat}{x:Operand}{low high:Option Operand}{b off n:Nat}{l h:Int}{sz:Nat}[hs:TyL P T n sz](ho:o.op= .slice T x low high none)(hx:ev E x=some (.val (.pointer (some ⟨b,off,none⟩))))(hl:c0A E low 0=some l)(hh:c0A E high n=some h)(h0:0≤l∧l≤h∧h≤n)
  (hc:l<n):OpW P N o E H (Is (.val (.slice (some ⟨b,off+l.toNat*sz,none⟩) (h.toNat-l.toNat) (n-l.toNat)))):= .of_run fun R a W h1 h2 ha=>by
 obtain⟨U,i,hu,hi,hi2⟩:=hs.ax
 have hb:=d0H (P:=P) (W:=W) ha hl hh h0
 refine⟨_,?_,.val _⟩
 have hne: ¬n=l.toNat:=by omega
 simp only[execOp,ho,(ha.ev hx).val_inv,Instr.sliceAt,Instr.sureAddr,run_underlying hu,Sem.run_bind,Result.andThen_ok,hb,sizeOf,typeInfo,hi,hi2,run_program,Sem.run_pure,Option.map_none]
 simp[hne,a0H]
theorem O.sliceArrR {T:Nat}{x:Operand}{low high:Option Operand}{j n m:Nat}{xs ys:List AV}{l h:Int}{sz:Nat}[hs:TyL P T n sz](ho:o.op= .slice T x low high none)(hx:ev E x=some (.rp xs j))(hl:c0A E low 0=some l)(hh:c0A E high n=some h)(h0:0≤l∧l≤h∧h≤n)
  (hc:l<n) (hn:n≤maxLen) (hm:h.toNat-l.toNat=m) (hy:(xs.drop (j+l.toNat*sz)).take (m*sz)=ys):OpW P N o E H (Is (.ro false m ys)):= .of_run fun R a W h1 h2 ha=>by
 obtain⟨U,i,hu,hi,hi2⟩:=hs.ax
 have hb:=d0H (P:=P) (W:=W) ha hl hh h0
 have hv:=ha.ev hx
 generalize hux:a.eval x=u at*
 cases hv with
 | rp _ _ b off us hb' hcs hr=>
  have hne: ¬n=l.toNat:=by omega
  refine⟨.slice (some ⟨b,off+(j+l.toNat*sz),none⟩) (h.toNat-l.toNat) (n-l.toNat),?_,?_⟩
  ·simp only[execOp,ho,hux,Instr.sliceAt,Instr.sureAddr,run_underlying hu,Sem.run_bind,Result.andThen_ok,hb,sizeOf,typeInfo,hi,hi2,run_program,Sem.run_pure,Option.map_none]
   simp[hne,a0H,Nat.add_assoc]
  ·rw[hm]
   subst hy
   refine .ro _ _ _ b (off+(j+l.toNat*sz)) _ (fun q=>us (j+l.toNat*sz+q)) hb' (fun q hq=> ?_) (fun q hq=> ?_) (by omega) (by omega) (fun h=>by cases h)
   ·simp at hq
    rw[Nat.add_assoc]
    exact hcs _ (by omega)
   ·simp only[List.getElem_take,List.getElem_drop]
    simp at hq
    exact hr _ (by omega)
theorem O.sliceArrK {p q:Nat}{T:Nat}{x:Operand}{low high:Option Operand}{b off n:Nat}{l h:Int}{sz:Nat}[hs:TyL P T n sz](ho:o.op= .slice T x low high none)(hx:ev E x=some (.val (.pointer (some ⟨b,off,none⟩))))(hl:c0A E low 0=some l)(hh:c0A E high n=some h)(e1:l=(p:Int))(e2:h=(q:Int))(h0:p≤q∧q≤n)
  (hc:p<n):OpW P N o E H (Is (.val (.slice (some ⟨b,off+p*sz,none⟩) (q-p) (n-p)))):=by
 subst e1;subst e2
 have:=O.sliceArr (P:=P) (N:=N) (H:=H) ho hx hl hh ⟨by omega,by omega,by omega⟩ (by omega)
 simpa using this
theorem O.sliceArrRK {p q:Nat}{T:Nat}{x:Operand}{low high:Option Operand}{j n:Nat}{xs ys:List AV}{l h:Int}{sz:Nat}[hs:TyL P T n sz](ho:o.op= .slice T x low high none)(hx:ev E x=some (.rp xs j))(hl:c0A E low 0=some l)(hh:c0A E high n=some h)(e1:l=(p:Int))(e2:h=(q:Int))(h0:p≤q∧q≤n)
  (hc:p<n) (hn:n≤maxLen) (hy:(xs.drop (j+p*sz)).take ((q-p)*sz)=ys):OpW P N o E H (Is (.ro false (q-p) ys)):=by
 subst e1;subst e2
 exact O.sliceArrR (P:=P) (N:=N) (H:=H) ho hx hl hh ⟨by omega,by omega,by omega⟩ (by omega) hn (by simp) (by simpa using hy)
theorem O.toArr {T:Nat}{x:Operand}{full:Bool}{n k sz:Nat}{xs:List AV}[hs:TyL P T k sz](ho:o.op= .sliceToArrayPointer T x)(hx:ev E x=some (.ro full n xs))(hk:k≤n)(hk0:0<k):OpW P N o E H (Is (.rp xs 0)):= .of_run fun R a W h1 h2 ha=>by
 obtain⟨U,i,hu,hi,hi2⟩:=hs.ax
 have hv:=ha.ev hx
 generalize hux:a.eval x=u at*
 cases hv with
 |emp _ ad cap h3 h4=>omega
 |ro _ _ _ b off cap us hb' hcs hr h3 h4 h5=>
  refine⟨.pointer (some ⟨b,off,none⟩),?_,?_⟩
  ·simp[execOp,ho,hux,Instr.arrayAt,run_underlying hu,Nat.not_lt.2 hk]
  ·exact .rp xs 0 b off us hb' hcs hr
theorem p0Y {p:AV→Bool}: ∀{xs:List AV} (n:Nat),xs.all p=true→(xs.take n).all p=true:=fun{xs} n h=>by
 rw[List.all_eq_true]at h⊢
 exact fun x hx=>h x (List.mem_of_mem_take hx)
theorem AO.copyIn {Td Ts:Nat}{x y:Operand}{b off n c m i T' room U bs:Nat}{full:Bool}{ys xs zs:List AV}{zz:Value}{H':List HE}{d:Option Tmp}[hs:TyS P Td U 1 bs zz](ho:o.op= .call {callee:= .builtin .copy,args:= #[x,y],argTypes:= #[Td,Ts]})(hgd:o.guard=none)
  (hx:ev E x=some (.val (.slice (some ⟨b,off,none⟩) n c))) (hy:ev E y=some (.ro full m ys)) (hlen:ys.length=m) (hone:ys.all AV.one=true) (hi:H[i]? =some (.blk b T' room xs)) (hfit:off+min m n≤xs.length) (hz:a0e xs off (ys.take (min m n))=zs) (hH:H.set i (.blk b T' room zs)=H')
  (hd:o.dst=d) (hN: ∀q,d=some q→q<Γ.N) (next: ∀E',(E'=match d with|some q=>(q,.val (.int .i64 (min m n:Nat)))::E|none=>E)→AO Γ P ops Q rest E' H'):AO Γ P ops Q (o::rest) E H:=fun R a W hs' ha=>by
 have hmem:=List.mem_of_getElem? hi
 obtain⟨us,cs,hb,hsz,ht,hr⟩:=hs'.ok _ hmem
 have hxs:xs.length≤cs.size:=by
  have:=hr.1
  have h5:cs.toList.length=cs.size:=Array.length_toList
  rw[←ht,List.length_take]at this;omega
 obtain⟨vs,hvl,hvr,hrun⟩: ∃vs:List Value,vs.length=min m n∧RelL R W (ys.take (min m n)) vs∧(Builtin.copy_ #[Td,Ts] o.type #[a.eval x,a.eval y]).run P W= .ok (goInt ((min m n:Nat):Int)) (if min m n=0 then W else W.setRow b (cs.toList.take off++vs++cs.toList.drop (off+min m n)).toArray):=by
  obtain⟨inf,hi1,hi2, -⟩:=hs.el
  have hsz1:(P.info? U).map (·.size)=some 1:=by rw[hi1];simp[hi2]
  have hvx:=(ha.ev hx).val_inv
  have hvy:=ha.ev hy
  rw[hvx]
  generalize hux:a.eval y=u at*
  cases hvy with
  |emp _ ad cap h3 h4=>
   refine⟨[],by simp,⟨by simp,by simp⟩,?_⟩
   have:=run_copy_none (P:=P) W Td Ts o.type U (some ⟨b,off,none⟩) ad n c 0 cap hs.ty hsz1 (by simp)
   rw[this];simp[Nat.min_eq_left (Nat.zero_le n)]
  | ro _ _ _ b2 off2 cap us2 hb' hcs hr2 h3 h4 h5=>
   by_cases h0:min m n=0
   ·refine⟨[],by simp[h0],by rw[h0];exact⟨by simp,by simp⟩,?_⟩
    have:=run_copy_none (P:=P) W Td Ts o.type U (some ⟨b,off,none⟩) (some ⟨b2,off2,none⟩) n c m cap hs.ty hsz1 h0
    rw[this,if_pos h0,h0];rfl
   ·let vs:=(List.range (min m n)).map us2
    have hvs: ∀q (hq:q<min m n),vs[q]? =some (us2 q):=fun q hq=>by simp[vs,hq]
    have hvsl:vs.length=min m n:=by simp[vs]
    refine⟨vs,hvsl,⟨by rw[List.length_take,hvsl,hlen];omega,fun q hq=> ?_⟩,?_⟩
    ·rw[List.length_take,hlen]at hq
     have hq':q<min m n:=by omega
     have:=hr2 q (by rw[hlen];omega)
     simp only[List.getElem_take]
     rw[List.getD,hvs q hq']
     exact this
    ·have h1: ∀v∈vs,v.oneCell'=true:=fun v hv=>by
      obtain⟨q,hq,rfl⟩:=List.mem_map.1 hv
      have hq:=List.mem_range.1 hq
      have hql:q<ys.length:=by rw[hlen];omega
      exact(hr2 q hql).one (by rw[List.all_eq_true]at hone;exact hone _ (List.getElem_mem hql))
     have:=run_copy_row (P:=P) W Td Ts o.type U b off n c ⟨b2,off2,none⟩ m cap cs T' vs hs.ty hsz1 hb (by rw[hvsl]) (fun q v hq=>by
      have hql:q<min m n:=by have:=(List.getElem?_eq_some_iff.1 hq).1;omega
      rw[hvs q hql]at hq
      cases hq
      rw[a0H]
      exact hcs q (by rw[hlen];omega)) (by rw[hvsl];omega) h1
     rw[this,if_neg h0,hvsl]
 have hone': ∀v∈vs,v.oneCell'=true:=fun v hv=>by
  obtain⟨q,hq,rfl⟩:=List.getElem_of_mem hv
  have hql:q<(ys.take (min m n)).length:=by rw[←hvr.1];exact hq
  have h6:=hvr.2 q hql
  have h7:=p0Y (min m n) hone
  rw[List.all_eq_true]at h7
  have:=h6.one (h7 _ (List.getElem_mem hql))
  simpa[List.getD,hq]using this
 have hylen:(ys.take (min m n)).length=min m n:=by rw[←hvr.1,hvl]
 unfold wpList
 rw[if_pos (by unfold Region.wanted;rw[hgd])]
 refine .inl ?_
 unfold Oper.wp
 have hex:(execOp a.eval o).run P W= .ok (.value (.int .i64 (min m n:Nat))) (if min m n=0 then W else W.setRow b (cs.toList.take off++vs++cs.toList.drop (off+min m n)).toArray):=by
  simp[execOp,ho,resolve,invoke,builtin,hrun,Result.andThen,goInt]
 rw[hex]
 show wpList P ops Q rest (a.put o.dst _) _
 rw[hd]
 subst hH
 by_cases h0:min m n=0
 ·rw[if_pos h0]
  have hzx:zs=xs:=by
   rw[←hz]
   have:ys.take (min m n)= []:=by rw[h0];rfl
   rw[this];rfl
  have hset:H.set i (.blk b T' room zs)=H:=by
   rw[hzx]
   obtain⟨hil,he⟩:=List.getElem?_eq_some_iff.1 hi
   rw[←he];exact List.set_getElem_self hil
  refine next _ rfl R _ W (by rw[hset];exact hs') ?_
  cases d with
  |none=>exact ha.none _
  |some q=>exact ha.put (hN q rfl) (.val _)
 ·rw [if_neg h0]
  have hm:Mods (fun c=>(HE.blk b T' room xs).foot c) W (W.setRow b (cs.toList.take off++vs++cs.toList.drop (off+min m n)).toArray):=Mods.setRow (S:=fun c=>(HE.blk b T' room xs).foot c) (Mods.refl _ _) (fun _=>rfl) _
  have hR: ∀c,R c→(W.setRow b (cs.toList.take off++vs++cs.toList.drop (off+min m n)).toArray).heap[c]? =W.heap[c]? :=fun c hc=>hm.block c (hs'.rlt c hc) fun hh=>(hs'.own _ hmem c hh).2 hc
  have hok:(HE.blk b T' room zs).ok R (W.setRow b (cs.toList.take off++vs++cs.toList.drop (off+min m n)).toArray):=by
   refine⟨_,_,setRow_heap W b cs _ T' _ hb,?_,rfl,?_⟩
   ·rw[List.size_toArray,cH,cH,List.length_take,List.length_drop,Array.length_toList,hvl];omega
   ·rw [←hz,c0l _ _ _ (by rw[hylen];omega),hylen]
    have e:(cs.toList.take off++vs++cs.toList.drop (off+min m n)).take (xs.take off++ys.take (min m n)++xs.drop (off+min m n)).length=us.take off++vs++us.drop (off+min m n):=by
     have hul:us.length=xs.length:=hr.1
     generalize hzz:ys.take (min m n)=zz at*
     generalize min m n=k at*
     apply List.ext_getElem?
     intro q
     subst ht
     simp only[List.getElem?_take,List.getElem?_append,cH,List.length_take,List.length_drop,hvl,hylen,Array.length_toList,List.getElem?_drop]
     by_cases q1:q<off
     ·simp[q1,show q<xs.length by omega,show q<min off xs.length+k+(xs.length-(off+k)) by omega,show q<min off cs.size+k by omega,show q<min off cs.size by omega,show q<min off (min xs.length cs.size)+k by omega,show q<min off (min xs.length cs.size) by omega]
     ·by_cases q2:q<off+k
      ·simp[show min off xs.length=off by omega,show min off cs.size=off by omega,show min xs.length cs.size=xs.length by omega,q1,q2,show q<off+k+(xs.length-(off+k)) by omega]
      ·by_cases q3:q<xs.length
       ·simp[show min off xs.length=off by omega,show min off cs.size=off by omega,show min xs.length cs.size=xs.length by omega,q1,q2,show q<off+k+(xs.length-(off+k)) by omega,show off+k+(q-(off+k))<xs.length by omega]
       ·simp[show min off xs.length=off by omega,show min off cs.size=off by omega,show min xs.length cs.size=xs.length by omega,q1,q2,show ¬q<off+k+(xs.length-(off+k)) by omega,show ¬off+k+(q-(off+k))<xs.length by omega]
    show RelL R _ _ (List.take _ (cs.toList.take off++vs++cs.toList.drop (off+min m n)))
    rw[e]
    exact(((hr.take off).app hvr).app (hr.drop (off+min m n))).mono (fun _ h=>h) hR
  have hs2:=hs'.setEntry (e':= .blk b T' room zs) hi hm (fun c hc=> .inl hc) hok
  refine next _ rfl R _ _ hs2 ?_
  cases d with
  |none=>exact(ha.keep hR).none _
  |some q=>exact(ha.keep hR).put (hN q rfl) (.val _)
def Plain (v:AV):Prop:=(∃c,v= .val c)∨ ∃xs,v= .agg xs∧ ∀x∈xs,∃c,x= .val c
theorem Plain.val {c:Value}:Plain (.val c):= .inl ⟨c,rfl⟩
theorem Plain.rel {v:AV}(h:Plain v){R R':Nat→Prop}{W W':World}{u:Value}(hv:RelV R W v u):RelV R' W' v u:=by
 rcases h with⟨c,rfl⟩|⟨xs,rfl,hx⟩
 ·rw[hv.val_inv];exact .val _
 ·cases hv with
  |agg _ cs hs hr=>
   refine .agg _ cs hs fun j hj=> ?_
   obtain⟨c,hc⟩:=hx xs[j] (List.getElem_mem hj)
   have:=hr j hj
   rw[hc]at this⊢
   rw[this.val_inv];exact .val _
inductive LendB (b:Nat) (ys:List AV):List AV→List AV→Prop
 |nil:LendB b ys [] []
 |same {a:AV} {r r':List AV}:LendB b ys r r'→LendB b ys (a::r) (a::r')
 |lend {j:Nat} {r r':List AV}:LendB b ys r r'→LendB b ys (.val (.pointer (some ⟨b,j,none⟩))::r) (.rp ys j::r')
theorem u0m {R:Nat→Prop}{W:World}{b T room j:Nat}{xs:List AV}(h:HE.ok R W (.blk b T room xs)):RelV (fun c=>R c∨c=b) W (.rp xs j) (.pointer (some ⟨b,j,none⟩)):=by
 have:=RelV.rp (R:=fun c=>R c∨c=b) (W:=W) xs j b 0 (fun q=>(W.cell? ⟨b,0+q,none⟩).getD undef) (.inr rfl) (fun q hq=>by
  obtain⟨u,hu,_⟩:=d0V h (j:=q) (v:=xs[q]) (by simp[hq])
  rw[Nat.zero_add,hu];rfl) (fun q hq=>by
  obtain⟨u,hu,hr⟩:=d0V h (j:=q) (v:=xs[q]) (by simp[hq])
  rw[Nat.zero_add,hu]
  exact hr.mono (fun _ h=> .inl h) (fun _ _=>rfl))
 simpa using this
theorem LendB.rel {R:Nat→Prop}{W:World}{b T room:Nat}{xs:List AV}(h:HE.ok R W (.blk b T room xs)){a a':List AV}(hl:LendB b xs a a'): ∀{us:List Value},RelL R W a us→RelL (fun c=>R c∨c=b) W a' us:=by
 induction hl with
 |nil=>intro us h;exact h.mono (fun _ h=> .inl h) (fun _ _=>rfl)
 |same _ ih=>
  intro us h
  obtain⟨u,r,rfl,h1,h2⟩:=h.uncons
  exact RelL.cons (h1.mono (fun _ h=> .inl h) (fun _ _=>rfl)) (ih h2)
 |lend _ ih=>
  intro us h'
  obtain⟨u,r,rfl,h1,h2⟩:=h'.uncons
  rw[h1.val_inv]
  exact RelL.cons (u0m h) (ih h2)
theorem O.callLB {f:FuncId}{xs:List Operand}{ats:Array TypeId}{args args':List AV}{v:AV}{b T room:Nat}{ys:List AV}{fn:Func}(ho:o.op= .call {callee:= .value (.func f),args:=xs.toArray,argTypes:=ats})(hfn:P.funcs[f]? =some fn)(hn:(fn.name== "runtime.NumGoroutine")=false)(hb:fn.body.isNone=false)
  (hx:evs E xs=some args) (hm:HE.blk b T room ys∈H) (h:Sp P f args' [] (Is v)) (hp:Plain v) (hl:LendB b ys args args'):OpW P N o E H (Is v):=fun R a W h0 h2 h3 ha=>by
 have hlt: ∀c,R c∨c=b→c<W.heap.size:=by
  rintro c (hb|rfl)
  ·exact h0 c hb
  ·exact HE.ok_lt (h2 _ hm) rfl
 unfold Oper.wp
 rw[b0S ho hfn hn hb,List.map_toArray]
 have hc:=h W _ (xs.map a.eval) hlt (fun e he=>by cases he) .nil (hl.rel (h2 _ hm) (ha.evs hx))
 refine Calls.mono hc ?_
 rintro e W' ⟨u,r,H',R',rfl,⟨rfl,rfl⟩,hs,hv⟩
 have p:=d0P hs hv hlt
 exact⟨u,r,[],R,rfl,⟨rfl,rfl⟩,p.ext,fun _ h=>h,fun _ h=> .inl h,hp.rel hv,fun _ he=>(by cases he),.nil⟩
end
theorem r0d {a b:Int}(h:0≤a):a.tmod b=a%b:=Int.tmod_eq_emod_of_nonneg h
theorem vo {a b:Int}(h:0≤a:=by omega):a.tmod b=a%b:=r0d h
theorem v0g {a b:Int}(h:0≤a∧a≤9223372036854775807)(hb:0<b):IntKind.i64.wrap (a.tdiv b)=a/b:=by
 rw[Int.tdiv_eq_ediv_of_nonneg h.1]
 have h1:0≤a/b:=Int.ediv_nonneg h.1 (by omega)
 have h2:a/b≤a:=Int.ediv_le_self b h.1
 exact d0Z ⟨by omega,by omega⟩
theorem vG {a b:Int}(h:0≤a∧a≤9223372036854775807:=by exact⟨by omega,by omega⟩)(hb:0<b:=by omega):IntKind.i64.wrap (a.tdiv b)=a/b:=v0g h hb
def fnB (n:Nat)(f:Nat→UInt8):List UInt8:=(List.range n).map f
def arB (n:Nat)(f:Nat→UInt8):List AV:=a0a (fnB n f)
theorem a0D (n:Nat)(f:Nat→UInt8):(fnB n f).length=n:=by simp[fnB]
theorem a0b (n:Nat)(f:Nat→UInt8):(arB n f).length=n:=by simp[arB,a0a,fnB]
theorem c0D (n:Nat)(f:Nat→UInt8):arB n f=(List.range n).map fun q=>AV.val (.int .u8 ((f q).toNat:Int)):=by simp[arB,a0a,fnB,Function.comp_def]
theorem a0p {n:Nat}{f:Nat→UInt8}{k:Nat}(h:k<n){j:Nat}(hj:j=k):(arB n f)[j]? =some (.val (.int .u8 ((f k).toNat:Int))):=by subst hj;rw[c0D];simp[h]
theorem c0P {n:Nat}{f g:Nat→UInt8}(h: ∀q,q<n→f q=g q):fnB n f=fnB n g:=List.map_congr_left fun q hq=>h q (List.mem_range.1 hq)
theorem a0d {n:Nat}{f g:Nat→UInt8}(h: ∀q,q<n→f q=g q):arB n f=arB n g:=congrArg a0a (c0P h)
theorem t0X {n:Nat}{f:Nat→UInt8}{j k:Nat}(h:j+k≤n):((fnB n f).drop j).take k=fnB k fun q=>f (j+q):=by
 apply List.ext_getElem?
 intro q
 by_cases hq:q<k
 ·simp[fnB,hq,List.getElem?_take,show j+q<n by omega]
 ·simp[fnB,hq,List.getElem?_take]
theorem g0P {n:Nat}{f:Nat→UInt8}{j k:Nat}(h:j+k≤n):((arB n f).drop j).take k=arB k fun q=>f (j+q):=by
 rw[arB,a0a,←List.map_drop,←List.map_take,t0X h];rfl
theorem d0x (n:Nat)(f:Nat→UInt8):(arB n f).all AV.one=true:=by
 rw[List.all_eq_true,c0D]
 intro x hx
 obtain⟨q,_,rfl⟩:=List.mem_map.1 hx
 rfl
theorem m0N (n:Nat)(f:Nat→UInt8):Plain (.agg (arB n f)):= .inr ⟨_,rfl,fun x hx=>by
 rw[c0D]at hx
 obtain⟨q,_,rfl⟩:=List.mem_map.1 hx
 exact⟨_,rfl⟩⟩
theorem a0K {n:Nat}{f:Nat→UInt8}{k:Nat}(h:k<n)(v:UInt8){j:Nat}(hj:j=k):a0e (arB n f) j [.val (.int .u8 (v.toNat:Int))]=arB n (fun q=>if q=k then v else f q):=by
 subst hj
 show(arB n f).set j _=_
 apply List.ext_getElem?
 intro q
 rw[List.getElem?_set,c0D,c0D]
 by_cases hq:q<n
 ·by_cases e:j=q
  ·subst e;simp[h]
  ·simp[hq,e,show ¬q=j from fun e'=>e e'.symm]
 ·by_cases e:j=q
  ·subst e;omega
  ·simp[hq,e]
theorem d0i {n:Nat}{f g:Nat→UInt8}{j k:Nat}(h:j+k≤n):a0e (arB n f) j (arB k g)=arB n (fun q=>if j≤q∧q<j+k then g (q-j)else f q):=by
 rw[c0l _ _ _ (by rw[a0b,a0b];omega),a0b]
 apply List.ext_getElem?
 intro q
 simp only[List.getElem?_append,cH,List.length_take,a0b,List.getElem?_take,List.getElem?_drop]
 rw[c0D,c0D,c0D]
 by_cases q1:q<j
 ·simp[q1,show q<n by omega,show q<min j n+k by omega,show q<min j n by omega,show ¬j≤q by omega]
 ·by_cases q2:q<j+k
  ·simp[q1,q2,show min j n=j by omega,show j≤q by omega,show q-j<k by omega,show q<n by omega]
  ·by_cases q3:q<n
   ·simp[q1,q2,q3,show min j n=j by omega,show j+k+(q-(j+k))=q by omega]
   ·simp[q1,q2,q3,show min j n=j by omega,show n≤j+k+(q-(j+k)) by omega]
theorem f0k {xs cs:List AV}(h:xs.length=cs.length):a0e xs 0 cs=cs:=by
 rw[c0l _ _ _ (by omega)]
 simp[h]
theorem b0C {xs:List AV}{n:Nat}{f:Nat→UInt8}(h:xs.length=n):a0e xs 0 (arB n f)=arB n f:=f0k (by rw[h,a0b])
theorem b0D (n:Nat)(f:Nat→UInt8):roB (fnB n f)= .ro false n (arB n f):=by unfold roB;rw[a0D];rfl
end Go.Proofs.YtojomcdjcpmnkaaGreat.A
namespace Go.Proofs.YtojomcdjcpmnkaaGreat.By
open Go.RowKit L A
def beB:Nat→Nat→List UInt8
 |0,_=> []
 |k+1,n=>beB k (n/256)++[UInt8.ofNat n]
def l0q (m n:Nat):List UInt8:=
 if n<24 then [UInt8.ofNat (32*m+n)]else if n<256 then UInt8.ofNat (32*m+24)::beB 1 n else if n<65536 then UInt8.ofNat (32*m+25)::beB 2 n
 else if n<4294967296 then UInt8.ofNat (32*m+26)::beB 4 n else UInt8.ofNat (32*m+27)::beB 8 n
def c0k (b:List UInt8):List UInt8:=l0q 2 b.length++b
def j0H (b:List UInt8):List UInt8:=l0q 3 b.length++b
def e0B (n:Nat):List UInt8:=l0q 0 n
def g0c (l:List (List UInt8)):List UInt8:=l0q 4 l.length++l.flatten
def g0h (id ctx:List UInt8)(has:Bool)(kind:List UInt8)(n:Nat):List UInt8:=g0c [c0k id,if has then c0k ctx else [0xf6],e0B 10,j0H kind,e0B n]
def p0t:List UInt8:= [75,101,121]
def ivT:List UInt8:= [73,86]
def h0A:List UInt8:= [69,110,99,114,121,112,116,48]
def s0L (kid pb:List UInt8):List UInt8:=g0c [j0H h0A,c0k [],c0k (g0c [e0B 1,g0c [e0B 10],c0k kid,c0k pb,c0k []])]
def nF (c id:List UInt8)(piv:Int)(i j q:Nat):UInt8:=
 ((c.getD q 0^^^ (if q=0 then u8 (id.length:Int)else 0))^^^ (if 8-id.length≤q∧q<8-id.length+i then id.getD (q-(8-id.length)) 0 else 0))^^^ (if 13-j≤q∧q<13 then u8 (piv/2^ (8*(12-q)))else 0)
theorem t0H {c id:List UInt8}{piv:Int}{i:Nat}(hl:id.length≤7)(hi:i<id.length)(q:Nat):
  (if q=8-id.length+i then nF c id piv i 0 (8-id.length+i)^^^id.getD i 0 else nF c id piv i 0 q)=nF c id piv (i+1) 0 q:=by
 have h13: ∀p:Nat,¬(13-0≤p∧p<13):=fun p=>by omega
 by_cases h:q=8-id.length+i
 ·subst h
  rw[if_pos rfl]
  unfold nF
  rw[if_neg (h13 _),if_neg (show ¬(8-id.length≤8-id.length+i∧8-id.length+i<8-id.length+i) by omega),if_pos (show 8-id.length≤8-id.length+i∧8-id.length+i<8-id.length+(i+1) by omega),
   show 8-id.length+i-(8-id.length)=i by omega]
  simp
 rw[if_neg h]
 unfold nF
 rw[if_neg (h13 _)]
 by_cases h2:8-id.length≤q∧q<8-id.length+i
 ·rw[if_pos h2,if_pos (show 8-id.length≤q∧q<8-id.length+(i+1) by omega)]
 rw[if_neg h2,if_neg (show ¬(8-id.length≤q∧q<8-id.length+(i+1)) by omega)]
theorem q0z {c id:List UInt8}{piv:Int}{i j:Nat}(hj:j<5)(q:Nat):
  (if q=12-j then nF c id piv i j (12-j)^^^u8 (piv/2^ (8*j))else nF c id piv i j q)=nF c id piv i (j+1) q:=by
 by_cases h:q=12-j
 ·subst h
  rw[if_pos rfl]
  unfold nF
  rw[if_neg (show ¬(13-j≤12-j∧12-j<13) by omega),if_pos (show 13-(j+1)≤12-j∧12-j<13 by omega),show 12-(12-j)=j by omega]
  simp
 rw[if_neg h]
 unfold nF
 by_cases h2:13-j≤q∧q<13
 ·rw[if_pos h2,if_pos (show 13-(j+1)≤q∧q<13 by omega)]
 rw[if_neg h2,if_neg (show ¬(13-(j+1)≤q∧q<13) by omega)]
def k0j (c id:List UInt8)(piv:Int):List UInt8:=fnB 13 (nF c id piv id.length 5)
def b0U (c id:List UInt8)(piv:Int):List UInt8×Int:=
 if c.length≠13∨7<id.length then([],1)else if piv<0∨1099511627775<piv then([],8)else(k0j c id piv,0)
end Go.Proofs.YtojomcdjcpmnkaaGreat.By
namespace Go.Proofs.YtojomcdjcpmnkaaGreat.By
open Go.RowKit L A Dk
attribute [local irreducible] AW AQ AO
theorem p0W (n:Int):Sp Tryz.prog 112 [.val (.int .i64 n)] [] (Is (roB (b0N n))):=by
 refine yH Tryz.func112 _ Tryz.ntmps112 (fun w0 R0=> ?_)
 refine zC (zq ?_)
 refine zc (zH (zn (zC (zC (zq ?_)))))
 refine zb ?_
 refine zR ?_
 refine zb ?_
 refine yl ?_
 refine yy 7 ?_
 refine zG (zH (zn ?_))
 refine ym (fun h=> ?_) (fun h=> ?_)<;>(try simp only[vU]at h)
 ·have e:b0N n= []:=by unfold b0N;rw[if_pos (by omega)]
  rw[e]
  refine zC (zq ?_)
  refine zc (zH (zn (y3 (xh ?_))))
  refine AQ.g ?_
  refine G.nilRo 2 rfl ?_
  refine AQ.u ?_
  try dsimp only[List.map,List.eraseIdx,cA,cN]
  refine yw
 obtain⟨m,rfl⟩: ∃m:Nat,n=(m:Int):=⟨n.toNat,by omega⟩
 have e:b0N (m:Int)=l0D (m/256) [u8 (m:Int)]:=by unfold b0N;rw[if_neg (by omega)];simp
 rw[e]
 refine yU (zn (zC (zq ?_)))
 refine zb ?_
 refine y4 ?_
 refine zU ?_
 intro B
 refine zc (zH (zn (zC (zC (zq ?_)))))
 refine zb ?_
 refine wZ ?_
 refine zc (zH (zn (xb ?_)))
 rw[show(m:Int)/256=((m/256:Nat):Int) by omega]
 refine AW.g ?_
 refine G.closeRow (n:=1) (cap:=1) 0 rfl rfl rfl (Nat.le_refl _) (by(unfold maxLen;omega)) ?_
 refine AW.u ?_
 dsimp only[List.set]
 refine AW.loopK [] (fun nn E H=> ∃(j:Nat) (q:Nat) (out:List UInt8) (V:Value),(j<256^q)∧(q≤4)∧(out.length+q≤5)∧(V.oneCell'=true)∧(l0D (m/256) [u8 (m:Int)]=l0D j out)∧j=nn∧E= [(0,.val (.int .i64 (j:Int))),(3,.val V)]∧H= [.row V 5 1 out.length (a0a out)]) _ (⟨m/256,4,[u8 (m:Int)],_,by omega,by omega,by simp,rfl,rfl,rfl,rfl,rfl⟩) (by repeat(exact a0m)) (by repeat(first|exact a0m|refine a0k rfl ?_)) (by repeat(first|exact a0B|refine a0x 0 rfl ?_)) ?_
 rintro nn E H ⟨j,q,out,V,h1,h2,h4,hV,hb,rfl,rfl,rfl⟩
 dsimp only[cA,cN]
 refine zC (zC (zq ?_))
 refine zb ?_
 refine yN (zH (zn ?_))
 refine ym (fun h=> ?_) (fun h=> ?_)<;>(try simp only[vU]at h)
 ·obtain⟨q,rfl⟩: ∃p,q=p+1:=⟨q-1,by cases q with|zero=>simp at h1;omega|succ q=>rfl⟩
  have hj:j≠0:=by omega
  rw[a0T hj]at hb
  refine yU (zn (zC (xb (zq ?_))))
  refine zb ?_
  refine y4 ?_
  refine zU ?_
  intro B
  refine AO.g ?_
  refine xK B 1 1 0 rfl rfl rfl (Nat.le_refl _) ?_
  refine AO.u ?_
  dsimp only[List.set]
  refine zb ?_
  refine AO.append' (i:=0) rfl rfl rfl rfl (by rfl) (by rfl) rfl rfl rfl (by exact SrcA.row TyD.ax mM (by(simp;done))) (by(simp[AV.cells,AV.one, *];done)) (by(unfold maxLen;omega)) (by omega) (by(dsimp only[List.set,List.append,cA,cN,a0e,a0v,AV.cells,List.map,List.map_cons,List.map_nil,List.take,List.drop,Nat.zero_add,Nat.add_zero,Nat.reduceAdd,Nat.reduceMul,Nat.zero_mul,Value.cells,List.toList_toArray,a0t,List.replicate,List.flatten,cP];done)) (fun _=>by(dsimp only[List.set];done)) ?_
  intro V hV
  refine zc (zH (xA (zn (zq ?_))))
  refine zb ?_
  refine wZ ?_
  refine zc (zH ?_)
  rw[show(j:Int)/256=((j/256:Nat):Int) by omega]
  refine AQ.loopKN _ _ _ (Nat.div_lt_self (by omega) (by omega)) (⟨j/256,q,u8 (j:Int)::out,V,by rw[Nat.pow_succ]at h1;omega,by omega,by simp;omega,hV,hb,rfl,rfl,by simp only[cL,Nat.add_comm out.length 1];rfl⟩) (by repeat(exact a0m)) (by repeat(first|exact a0m|refine a0k rfl ?_)) (by repeat(first|exact a0B|refine a0x 0 rfl ?_))
 obtain rfl:j=0:=by omega
 rw[hb,a0U]
 refine wm ?_
 refine xY ?_
 refine wa ?_
 refine xq (zn (zC (zq ?_)))
 refine zb ?_
 refine zc (zH (zn (y3 ?_)))
 refine AQ.g ?_
 refine yj 0 [2] ?_
 refine AQ.u ?_
 try dsimp only[List.map,List.eraseIdx,cA,cN]
 refine yw
theorem h0R (n:Int):Sp Tryz.prog 74 [.val (.int .i64 n)] [] (Is (roB (b0N n))):=by
 refine yH Tryz.func74 _ Tryz.ntmps74 (fun w0 R0=> ?_)
 refine zC (zq ?_)
 refine zc (zH (zn (zC (zC (zq ?_)))))
 refine zb ?_
 refine zR ?_
 refine zb ?_
 refine yl ?_
 refine yy 9 ?_
 refine zG (zH (zn ?_))
 refine ym (fun h=> ?_) (fun h=> ?_)<;>(try simp only[vU]at h)
 ·have e:b0N n= []:=by unfold b0N;rw[if_pos (by omega)]
  rw[e]
  refine zC (zq ?_)
  refine zc (zH (zn (y3 (xh ?_))))
  refine AQ.g ?_
  refine G.nilRo 2 rfl ?_
  refine AQ.u ?_
  try dsimp only[List.map,List.eraseIdx,cA,cN]
  refine yw
 obtain⟨m,rfl⟩: ∃m:Nat,n=(m:Int):=⟨n.toNat,by omega⟩
 refine yU (zn (zC (zq ?_)))
 refine zc (zH (zn (zC (zC (zq ?_)))))
 refine zc (zH (zn (xb ?_)))
 refine AW.g ?_
 refine G.nilRow 5 1 ?_
 refine AW.u ?_
 refine zh [(0,_)] (fun nn E H=> ∃(k:Nat) (V:Value),(k≤5)∧(V.oneCell'=true)∧nn=5-k∧E= [(3,.val V),(4,.val (.int .i64 (32-8*(k:Int))))]∧H= [.row V 5 1 (rGo (m:Int) k).length (a0a (rGo (m:Int) k))]) _ (⟨0,.slice none 0 0,by omega,rfl,rfl,rfl,rfl⟩) ?_
 rintro nn E H ⟨k,V,h1,hV,rfl,rfl,rfl⟩
 dsimp only[cA,cN]
 have hlen:=m0I (m:Int) k
 refine zC (zC (zq ?_))
 refine zb ?_
 refine xR (zH (zn ?_))
 refine ym (fun h=> ?_) (fun h=> ?_)<;>(try simp only[vU]at h)
 ·have hk:k≤4:=by omega
  refine yU (zn (zC (xb (zC (zq ?_)))))
  refine zb ?_
  refine zb ?_
  refine vO (O.shr rfl rfl rfl (by omega) rfl) ?_
  refine y4 ?_
  refine zc (zH (zn (zC (zq ?_))))
  refine zb ?_
  refine wj ?_
  refine yN ?_
  refine zb ?_
  refine yl ?_
  refine xF 24 ?_
  refine zG ?_
  refine zb ?_
  refine yl ?_
  refine xe 28 ?_
  refine zG (zH (zn ?_))
  have e1:Int.fdiv (m:Int) (2^min (Int.toNat (32-8*(k:Int))) IntKind.i64.bits)=(m:Int)/256^ (4-k):=by
   rcases(show k=0∨k=1∨k=2∨k=3∨k=4 by omega)with rfl|rfl|rfl|rfl|rfl<;>exact Int.fdiv_eq_ediv_of_nonneg _ (by decide)
  rw[e1]
  have e2:((u8 ((m:Int)/256^ (4-k))).toNat:Int)=0↔u8 ((m:Int)/256^ (4-k))=0:=by
   rw[show(0:Int)=((0:UInt8).toNat:Int)from rfl,u8_eq]
  refine ym (fun h2=> ?_) (fun h2=> ?_)<;>(try simp only[vU]at h2)
  ·have e:rGo (m:Int) (k+1)=rGo (m:Int) k++[u8 ((m:Int)/256^ (4-k))]:=by
    rw[rGo,m0H,if_pos]
    rcases h2 with(h2|h2)|h2
    ·exact .inl (by omega)
    ·exact .inr (.inl (fun e=>h2 (e2.2 e)))
    exact .inr (.inr (by omega))
   refine zq ?_
   refine zb ?_
   refine zb ?_
   refine zU ?_
   intro B
   refine AO.g ?_
   refine yr 0 33 ?_
   refine wH 33 ?_
   refine AO.u ?_
   dsimp only[List.eraseIdx]
   refine yk 0 ?_
   intro V hV
   refine zc (zH (xA (zn (zq ?_))))
   refine zb ?_
   refine yG ?_
   refine zc (zH ?_)
   refine AQ.loopKN _ _ _ (by omega) (⟨k+1,V,by omega,hV,rfl,by rw[show 32-8*((k+1:Nat):Int)=32-8*(k:Int)-8 by omega],by rw[e,a0O,cH]<;>rfl⟩) (by repeat(first|exact a0m|refine a0k rfl ?_)) (by repeat(first|exact a0m|refine a0k rfl ?_)) (by repeat(first|exact a0B|refine a0x 0 rfl ?_))
  have e:rGo (m:Int) (k+1)=rGo (m:Int) k:=by
   obtain⟨⟨h3,h4⟩,h5⟩:=h2
   rw[rGo,m0H,if_neg]
   rintro(h6|h6|h6)
   ·omega
   ·exact h6 (e2.1 (by simpa using h4))
   omega
  refine yU (xA (zn (zq ?_)))
  refine zb ?_
  refine yG ?_
  refine zc (zH ?_)
  refine zr _ _ _ (by omega) (⟨k+1,V,by omega,hV,rfl,by rw[show 32-8*((k+1:Nat):Int)=32-8*(k:Int)-8 by omega],by rw[e]⟩)
 obtain rfl:k=5:=by omega
 rw[r0N (by omega) (by omega)]
 refine wm ?_
 refine xY ?_
 refine wa ?_
 refine xq (zn (zC (zq ?_)))
 refine zb ?_
 refine zc (zH (zn (y3 ?_)))
 refine AQ.g ?_
 refine yj 0 [2] ?_
 refine AQ.u ?_
 try dsimp only[List.map,List.eraseIdx,cA,cN]
 refine yw
end Go.Proofs.YtojomcdjcpmnkaaGreat.By
namespace Go.Proofs.YtojomcdjcpmnkaaGreat.By
open Go.RowKit L A
attribute [local irreducible] AW AQ AO
abbrev j0e (k n:Int)(b:List UInt8):List AV:= [.val (.int .i64 k),.val (.int .u64 n),roB b,.ro false 0 []]
theorem e0r (k n:Int)(b:List UInt8):(It.mk k n b []).cells=j0e k n b:=by rw[It.cells,d0O];rfl
theorem d0f (k n:Int)(b:List UInt8)(l:List It):(It.mk k n b l).cells= [.val (.int .i64 k),.val (.int .u64 n),roB b,.ro false l.length (d0O l)]:=by rw[It.cells]
theorem n0n (l:List It)(x:It):d0O (l++[x])=d0O l++x.cells:=by rw[h0n,h0n,f0C]
abbrev g0Q (x:It):Prop:=Sp Tryz.prog 168 [.agg x.cells] [] (Is (.agg x.cells))
theorem k0x {k n:Int}{b:List UInt8}{l:List It}(hb:b.length≤100000)(hm:l.length≤1000)(hS: ∀q,q<l.length→g0Q (o0k l q)):g0Q (.mk k n b l):=by
 unfold g0Q
 rw[d0f]
 refine yH Tryz.func168 _ Tryz.ntmps168 (fun w0 R0=> ?_)
 refine zC (zq ?_)
 refine z9 ?_
 intro B1
 refine zd ?_
 intro B2
 refine zH (zn (zC ?_))
 refine yo 9 ?_
 simp only[cT,cZ,cD,cO]
 refine yn ?_
 refine zO ?_
 refine yn ?_
 refine zO ?_
 refine yn ?_
 refine zO ?_
 refine vJ ?_
 refine xN ?_
 refine yS ?_
 refine vf ?_
 simp only[a0g,cN,cA,cP]
 rintro _ _ ⟨B3,rfl,rfl⟩
 simp only[cA,cN]
 refine za 0 (zH (zn (zC (zq ?_))))
 refine zc (zH (zn (zC (zC (zq ?_)))))
 refine zt ?_
 refine zp ?_
 refine zZ ?_
 refine zb (zH (zn (xb ?_)))
 refine AW.g ?_
 refine G.nilRow 147 4 ?_
 refine AW.u ?_
 refine zh [(2,_),(3,_),(16,_),(17,_)] (fun nn E H=> ∃(q:Nat) (V:Value),(q≤l.length)∧(V.oneCell'=true)∧nn=l.length-q∧E= [(4,.val V),(18,.val (.int .i64 (q:Int)))]∧H= [.row V 147 4 q (d0O (l.take q)),.blk B3 147 4 [.val (.int .i64 k),.val (.int .u64 n),roB b,.val (.slice none 0 0)],.blk B2 147 4 [.val (.int .i64 0),.val (.int .u64 0),.val (.slice none 0 0),.val (.slice none 0 0)],.blk B1 147 4 [.val (.int .i64 k),.val (.int .u64 n),roB b,.ro false l.length (d0O l)]]) _ (⟨0,_,by omega,rfl,rfl,rfl,by rw[cZ,d0O]⟩) ?_
 rintro nn E H ⟨q,V,hq,hV,rfl,rfl,rfl⟩
 dsimp only[cA,cN]
 have hil:(d0O (l.take q)).length=q*4:=by rw[p0v,List.length_take];omega
 refine zC (zq ?_)
 refine zR (zH (zn (zC ?_)))
 refine ym (fun hlt=> ?_) (fun hlt=> ?_)<;>(try simp only[vU]at hlt)
 ·have hql:q<l.length:=by omega
  obtain⟨kk,nn',bb,ll,hx⟩: ∃kk nn' bb ll,o0k l q= .mk kk nn' bb ll:=by cases h:o0k l q;exact⟨_,_,_,_,rfl⟩
  have hg:((d0O l).drop (Int.toNat (q:Int)*4)).take 4= [.val (.int .i64 kk),.val (.int .u64 nn'),roB bb,.ro false ll.length (d0O ll)]:=by
   rw[t0V hql (by omega),hx,It.cells]
  have hSk:=hS q hql
  rw[hx]at hSk
  unfold g0Q at hSk
  rw[It.cells]at hSk
  have e1:=n0n (l.take q) (o0k l q)
  rw[←a0i itN hql,hx,It.cells]at e1
  refine yU (zn (zC (xb (zC (zq ?_)))))
  refine yf ?_
  refine vO (O.loadRK rfl rfl (by exact hg) (by rfl)) ?_
  refine zd ?_
  intro B4
  refine za 0 (zH (zn (zq ?_)))
  refine zb ?_
  refine xW ?_
  refine vO (xD rfl Tryz.func168 rfl rfl rfl hSk) ?_
  refine zU ?_
  intro B5
  refine AO.g ?_
  refine yr 0 25 ?_
  refine wH 25 ?_
  refine AO.u ?_
  dsimp only[List.eraseIdx]
  refine yv 1 ?_
  intro V6 hV6
  refine zc (zH (xA (zn (zq ?_))))
  refine zx ?_
  refine zb (zH ?_)
  rw[show d0O (l.take q)++_=_ from e1.symm]
  refine zJ _ _ _ (by omega) (⟨q+1,_,by omega,‹_›,rfl,rfl,rfl⟩)
 obtain rfl:q=l.length:=by omega
 rw[List.take_length]
 refine AW.g ?_
 refine yj 0 [4] ?_
 refine AW.u ?_
 try dsimp only[List.map,List.eraseIdx,cA,cN]
 refine wm ?_
 refine xY ?_
 refine wa ?_
 refine xq (zn (zC (zq ?_)))
 refine zb ?_
 refine zt ?_
 refine za 0 (zH (zn (zC (zq ?_))))
 refine zI ?_
 refine za 1 (zH (zn (y3 ?_)))
 refine AQ.retCell rfl rfl mM (by rfl) rfl nS (⟨rfl,rfl⟩)
def u0v:Nat→It→Prop
 |0,.mk _ _ b l=>b.length≤100000∧l= []
 |d+1,.mk _ _ b l=>b.length≤100000∧l.length≤1000∧ ∀y∈l,u0v d y
theorem i0u: ∀(d:Nat) (x:It),u0v d x→g0Q x
 |0,.mk k n b l,h=>by
  obtain⟨h1,rfl⟩:=h
  exact k0x h1 (by simp) (fun q hq=>absurd hq (by simp))
 |d+1,.mk k n b l,h=>k0x h.1 h.2.1 fun q hq=>i0u d _ (h.2.2 _ (b0d itN hq))
theorem a0E {d:Nat}{k n:Int}{b:List UInt8}(h:b.length≤100000):u0v d (.mk k n b []):=by
 cases d with
 |zero=>exact⟨h,rfl⟩
 |succ d=>exact⟨h,by simp,fun y hy=>by cases hy⟩
theorem d0J (d:Nat)(l:List It)(hm:l.length≤1000)(hS: ∀y∈l,u0v d y):Sp Tryz.prog 123 [.ro false l.length (d0O l)] [] (Is (.agg (It.mk 4 0 [] l).cells)):=by
 have hcp:=i0u (d+1) (.mk 4 0 [] l) ⟨by simp,hm,hS⟩
 unfold g0Q at hcp
 rw[d0f]at hcp⊢
 refine yH Tryz.func123 _ Tryz.ntmps123 (fun w0 R0=> ?_)
 refine zC (zq ?_)
 refine zd ?_
 intro B1
 refine zH (zn (zC (zq ?_)))
 refine zb ?_
 refine zM ?_
 refine vO (vw rfl Tryz.func168 rfl rfl rfl hcp) ?_
 refine za 0 (zH (zn (y3 ?_)))
 refine AQ.retCell rfl rfl (by repeat(exact List.Mem.head _)) (by rfl) rfl nS (⟨rfl,rfl⟩)
theorem e0f (n:Int)(hn:0≤n∧n<1000):Sp Tryz.prog 124 [.val (.int .i64 n)] [] (Is (.agg (j0e 0 n []))):=by
 refine yH Tryz.func124 _ Tryz.ntmps124 (fun w0 R0=> ?_)
 refine zC (zq ?_)
 refine zd ?_
 intro B1
 refine zH (zn (zC (zC (zq ?_))))
 refine zb ?_
 refine vO (O.lss rfl rfl rfl (by exact c0p (by omega))) (zH (zn ?_))
 refine AW.condF rfl (yU (zn (zC (zq ?_))))
 refine zb ?_
 refine wd ?_
 refine zM ?_
 refine za 0 (zH (zn (y3 ?_)))
 refine x9 wx wE (⟨rfl,rfl⟩)
theorem c0K (b:List UInt8)(hb:b.length≤100000):Sp Tryz.prog 125 [roB b] [] (Is (.agg (j0e 2 0 b))):=by
 refine yH Tryz.func125 _ Tryz.ntmps125 (fun w0 R0=> ?_)
 refine zC (zq ?_)
 refine zd ?_
 intro B1
 refine zH (zn (zC (zq ?_)))
 refine zb ?_
 refine vO wi ?_
 refine zM ?_
 refine za 0 (zH (zn (y3 ?_)))
 refine x9 wx wE (⟨rfl,rfl⟩)
theorem j0N:Sp Tryz.prog 126 [.val (.string ⟨#[75,101,121]⟩)] [] (Is (.agg (j0e 3 0 p0t))):=by
 refine yH Tryz.func126 _ Tryz.ntmps126 (fun w0 R0=> ?_)
 refine zC (zq ?_)
 refine zd ?_
 intro B1
 refine zH (zn (zC (zq ?_)))
 refine zb ?_
 refine vO (O.toBytes rfl rfl rfl (by(unfold maxLen;simp;done))) ?_
 refine zM ?_
 refine za 0 (zH (zn (y3 ?_)))
 refine x9 wx wE (⟨rfl,rfl⟩)
theorem o0A:Sp Tryz.prog 126 [.val (.string ⟨#[73,86]⟩)] [] (Is (.agg (j0e 3 0 ivT))):=by
 refine yH Tryz.func126 _ Tryz.ntmps126 (fun w0 R0=> ?_)
 refine zC (zq ?_)
 refine zd ?_
 intro B1
 refine zH (zn (zC (zq ?_)))
 refine zb ?_
 refine vO (O.toBytes rfl rfl rfl (by(unfold maxLen;simp;done))) ?_
 refine zM ?_
 refine za 0 (zH (zn (y3 ?_)))
 refine x9 wx wE (⟨rfl,rfl⟩)
theorem o0B:Sp Tryz.prog 126 [.val (.string ⟨#[69,110,99,114,121,112,116,48]⟩)] [] (Is (.agg (j0e 3 0 h0A))):=by
 refine yH Tryz.func126 _ Tryz.ntmps126 (fun w0 R0=> ?_)
 refine zC (zq ?_)
 refine zd ?_
 intro B1
 refine zH (zn (zC (zq ?_)))
 refine zb ?_
 refine vO (O.toBytes rfl rfl rfl (by(unfold maxLen;simp;done))) ?_
 refine zM ?_
 refine za 0 (zH (zn (y3 ?_)))
 refine x9 wx wE (⟨rfl,rfl⟩)
theorem b0g {m n:Nat}(h:n<24):l0q m n= [UInt8.ofNat (32*m+n)]:=if_pos h
theorem e0c (n:Nat):u8 (n:Int)=UInt8.ofNat n:=by
 unfold u8
 exact UInt8.toNat_inj.1 (by simp only[UInt8.toNat_ofNat'];omega)
theorem e0J {k:Int}{m:Nat}{b:List UInt8}(hk:k=(m:Int))(hm:m=2∨m=3)(h:b.length<24):(It.mk k 0 b []).enc=l0q m b.length++b:=by
 subst hk
 rw[d0e,b0g h,show hnI (m:Int) 0 b 0=(b.length:Int)from if_pos (by omega),show 32*(m:Int)+(b.length:Int)=((32*m+b.length:Nat):Int) by omega,e0c]
 rfl
theorem p0L {n:Nat}(h:n<24):(It.mk 0 (n:Int) [] []).enc=e0B n:=by
 rw[d0e,e0B,b0g h,show hnI 0 (n:Int) [] 0=(n:Int)from rfl,show 32*0+(n:Int)=((32*0+n:Nat):Int) by omega,e0c]
theorem n0A {l:List It}(h:l.length<24):(It.mk 4 0 [] l).enc=g0c (l.map It.enc):=by
 have e: ∀l:List It,b0Y l=(l.map It.enc).flatten:=fun l=>by
  induction l with
  |nil=>rw[b0Y];rfl
  |cons x l ih=>rw[b0Y,ih];rfl
 rw[j0k,g0c,List.length_map,b0g h,e,show 32*4+(l.length:Int)=((32*4+l.length:Nat):Int) by omega,e0c]
 rfl
theorem p0K:(It.mk 7 22 [] []).enc= [0xf6]:=by rw[d0e];rfl
def e0I (id ctx:List UInt8)(has:Bool)(kind:List UInt8)(n:Nat):List It:= [.mk 2 0 id [],if has=true then .mk 2 0 ctx []else .mk 7 22 [] [],.mk 0 ((10:Nat):Int) [] [],.mk 3 0 kind [],.mk 0 (n:Int) [] []]
theorem p0w {id ctx:List UInt8}{has:Bool}{kind:List UInt8}{n:Nat}(h1:id.length<24)(h2:ctx.length<24)(h3:kind.length<24)(h4:n<24):(It.mk 4 0 [] (e0I id ctx has kind n)).enc=g0h id ctx has kind n:=by
 have e:(e0I id ctx has kind n).map It.enc= [c0k id,if has then c0k ctx else [0xf6],e0B 10,j0H kind,e0B n]:=by
  show [(It.mk 2 0 id []).enc,(if has=true then It.mk 2 0 ctx []else It.mk 7 22 [] []).enc,(It.mk 0 ((10:Nat):Int) [] []).enc,(It.mk 3 0 kind []).enc,(It.mk 0 (n:Int) [] []).enc]=_
  rw[e0J (k:=2) (m:=2) rfl (.inl rfl) h1,p0L (by omega),e0J (k:=3) (m:=3) rfl (.inr rfl) h3,p0L h4]
  cases has with
  |true=>rw[if_pos rfl,if_pos rfl,e0J (k:=2) (m:=2) rfl (.inl rfl) h2];rfl
  |false=>rw[if_neg (by simp),if_neg (by simp),p0K];rfl
 rw[n0A (by show 5<24;omega),e];rfl
theorem e0W {id ctx:List UInt8}{has:Bool}{kind:List UInt8}{n:Nat}(h1:id.length<24)(h2:ctx.length<24)(h3:kind.length<24)(h4:n<24):(g0h id ctx has kind n).length≤100:=by
 cases has<;>simp[g0h,g0c,c0k,e0B,j0H,b0g,h1,h2,h3,h4]<;>omega
theorem g0Z (id ctx:List UInt8)(has:Bool)(s:ByteArray)(kind:List UInt8)(n:Nat)(h1:id.length<24)(h2:ctx.length<24)(h3:kind.length<24)(h4:n<24)(htx:Sp Tryz.prog 126 [.val (.string s)] [] (Is (.agg (j0e 3 0 kind)))):
  Sp Tryz.prog 106 [roB id,roB ctx,.val (.bool has),.val (.string s),.val (.int .i64 (n:Int))] [] (Is (roB (g0h id ctx has kind n))):=by
 have hen:=p0w (id:=id) (ctx:=ctx) (has:=has) (kind:=kind) (n:=n) h1 h2 h3 h4
 have hll:=e0W (id:=id) (ctx:=ctx) (has:=has) (kind:=kind) (n:=n) h1 h2 h3 h4
 cases has with
 | true=>
  have hli:=d0J 0 (e0I id ctx true kind n) (by show 5≤1000;omega) (by
   intro y hy
   simp only[e0I,if_true,List.mem_cons,List.not_mem_nil,or_false]at hy
   rcases hy with rfl|rfl|rfl|rfl|rfl
   ·exact a0E (by omega)
   ·exact a0E (by omega)
   ·exact a0E (by simp)
   ·exact a0E (by omega)
   exact a0E (by simp))
  have hra:=f0s 1 (.mk 4 0 [] (e0I id ctx true kind n)) (.inr ⟨rfl,rfl,rfl,by show 5<24;omega,by
   intro y hy
   simp only[e0I,if_true,List.mem_cons,List.not_mem_nil,or_false]at hy
   rcases hy with rfl|rfl|rfl|rfl|rfl
   ·exact⟨rfl,.inr ⟨.inl rfl,rfl,h1⟩⟩
   ·exact⟨rfl,.inr ⟨.inl rfl,rfl,h2⟩⟩
   ·exact⟨rfl,.inl ⟨.inl rfl,by omega,by omega,rfl⟩⟩
   ·exact⟨rfl,.inr ⟨.inr rfl,rfl,h3⟩⟩
   exact⟨rfl,.inl ⟨.inl rfl,by omega,by omega,rfl⟩⟩⟩) (by rw[hen];omega)
  unfold g0m at hra
  rw[hen]at hra
  rw[d0f]at hli hra
  simp only[e0I,if_true,d0O,e0r,cP,cA,cN,cL,cE,Nat.zero_add,Nat.reduceAdd]at hli hra
  refine yH Tryz.func106 _ Tryz.ntmps106 (fun w0 R0=> ?_)
  refine zC (zq ?_)
  refine zc (zH (zn (zC (zq ?_))))
  refine zM ?_
  refine zd ?_
  intro B1
  refine za 0 (zH (zn (zC (zC (zq ?_)))))
  refine zb (zH (zn ?_))
  refine AW.condT rfl (zq ?_)
  refine zb ?_
  refine vO (xD rfl Tryz.func125 rfl rfl rfl (c0K _ (by omega))) ?_
  refine za 0 (zH (zn (zC ?_)))
  refine yo 12 ?_
  simp only[cT,cZ,cD,cO]
  refine zE ?_
  refine vP (xD rfl Tryz.func125 rfl rfl rfl (c0K _ (by omega))) ?_
  refine vu ?_
  refine vP (xD rfl Tryz.func124 rfl rfl rfl (e0f _ ⟨by omega,by omega⟩)) ?_
  refine zE ?_
  refine vP (xD rfl Tryz.func126 rfl rfl rfl htx) ?_
  refine zE ?_
  refine vP (xD rfl Tryz.func124 rfl rfl rfl (e0f _ ⟨by omega,by omega⟩)) ?_
  refine vP (OpW.frz wk (by(unfold maxLen;omega))) ?_
  refine vP (xD rfl Tryz.func123 rfl rfl rfl hli) ?_
  refine vP (xD rfl Tryz.func122 rfl rfl rfl hra) ?_
  refine vq ?_
  refine vf ?_
  simp only[a0g,cN,cA,cP]
  refine zH (zn (y3 ?_))
  refine yw
 | false=>
  have hli:=d0J 0 (e0I id ctx false kind n) (by show 5≤1000;omega) (by
   intro y hy
   simp only[e0I,if_neg (show ¬(false=true) by simp),List.mem_cons,List.not_mem_nil,or_false]at hy
   rcases hy with rfl|rfl|rfl|rfl|rfl
   ·exact a0E (by omega)
   ·exact a0E (by simp)
   ·exact a0E (by simp)
   ·exact a0E (by omega)
   exact a0E (by simp))
  have hra:=f0s 1 (.mk 4 0 [] (e0I id ctx false kind n)) (.inr ⟨rfl,rfl,rfl,by show 5<24;omega,by
   intro y hy
   simp only[e0I,if_neg (show ¬(false=true) by simp),List.mem_cons,List.not_mem_nil,or_false]at hy
   rcases hy with rfl|rfl|rfl|rfl|rfl
   ·exact⟨rfl,.inr ⟨.inl rfl,rfl,h1⟩⟩
   ·exact⟨rfl,.inl ⟨.inr rfl,by omega,by omega,rfl⟩⟩
   ·exact⟨rfl,.inl ⟨.inl rfl,by omega,by omega,rfl⟩⟩
   ·exact⟨rfl,.inr ⟨.inr rfl,rfl,h3⟩⟩
   exact⟨rfl,.inl ⟨.inl rfl,by omega,by omega,rfl⟩⟩⟩) (by rw[hen];omega)
  unfold g0m at hra
  rw[hen]at hra
  rw[d0f]at hli hra
  simp only[e0I,if_neg (show ¬(false=true) by simp),d0O,e0r,cP,cA,cN,cL,cE,Nat.zero_add,Nat.reduceAdd]at hli hra
  refine yH Tryz.func106 _ Tryz.ntmps106 (fun w0 R0=> ?_)
  refine zC (zq ?_)
  refine zc (zH (zn (zC (zq ?_))))
  refine zM ?_
  refine zd ?_
  intro B1
  refine za 0 (zH (zn (zC (zC (zq ?_)))))
  refine zb (zH (zn ?_))
  refine AW.condF rfl (yU (zn (zC ?_)))
  refine yo 12 ?_
  simp only[cT,cZ,cD,cO]
  refine zE ?_
  refine vP (xD rfl Tryz.func125 rfl rfl rfl (c0K _ (by omega))) ?_
  refine vu ?_
  refine vP (xD rfl Tryz.func124 rfl rfl rfl (e0f _ ⟨by omega,by omega⟩)) ?_
  refine zE ?_
  refine vP (xD rfl Tryz.func126 rfl rfl rfl htx) ?_
  refine zE ?_
  refine vP (xD rfl Tryz.func124 rfl rfl rfl (e0f _ ⟨by omega,by omega⟩)) ?_
  refine vP (OpW.frz wk (by(unfold maxLen;omega))) ?_
  refine vP (O.callC rfl Tryz.func123 rfl rfl rfl hli (by(repeat(first|exact CoeL.nil|refine CoeL.cons Coe.rfl ?_|refine CoeL.cons Coe.nil ?_|refine CoeL.cons (Coe.ro ?_) ?_));done)) ?_
  refine vP (xD rfl Tryz.func122 rfl rfl rfl hra) ?_
  refine vq ?_
  refine vf ?_
  simp only[a0g,cN,cA,cP]
  refine zH (zn (y3 ?_))
  refine yw
def s0K (kid pb:List UInt8):List It:= [.mk 0 ((1:Nat):Int) [] [],.mk 4 0 [] [.mk 0 ((10:Nat):Int) [] []],.mk 2 0 kid [],.mk 2 0 pb [],.mk 2 0 [] []]
def i0E (kid pb:List UInt8):List UInt8:=g0c [e0B 1,g0c [e0B 10],c0k kid,c0k pb,c0k []]
theorem q0c {kid pb:List UInt8}(h1:kid.length<24)(h2:pb.length<24):(It.mk 4 0 [] (s0K kid pb)).enc=i0E kid pb:=by
 have e:(s0K kid pb).map It.enc= [e0B 1,g0c [e0B 10],c0k kid,c0k pb,c0k []]:=by
  show [(It.mk 0 ((1:Nat):Int) [] []).enc,(It.mk 4 0 [] [.mk 0 ((10:Nat):Int) [] []]).enc,(It.mk 2 0 kid []).enc,(It.mk 2 0 pb []).enc,(It.mk 2 0 [] []).enc]=_
  rw[e0J (k:=2) (m:=2) rfl (.inl rfl) h1,e0J (k:=2) (m:=2) rfl (.inl rfl) h2,e0J (k:=2) (m:=2) rfl (.inl rfl) (by simp),p0L (by omega),n0A (by simp),List.map_cons,List.map_nil,p0L (by omega)]
  rfl
 rw[n0A (by show 5<24;omega),e];rfl
theorem f0b {kid pb:List UInt8}(h1:kid.length≤7)(h2:pb.length≤5):(i0E kid pb).length<24:=by
 unfold i0E g0c c0k e0B
 rw[b0g (show kid.length<24 by omega),b0g (show pb.length<24 by omega)]
 simp[b0g];omega
def q0P (x:List UInt8):List It:= [.mk 3 0 h0A [],.mk 2 0 [] [],.mk 2 0 x []]
theorem q0b {kid pb:List UInt8}(h1:kid.length≤7)(h2:pb.length≤5):(It.mk 4 0 [] (q0P (i0E kid pb))).enc=s0L kid pb:=by
 have h3:=f0b h1 h2
 have e:(q0P (i0E kid pb)).map It.enc= [j0H h0A,c0k [],c0k (i0E kid pb)]:=by
  show [(It.mk 3 0 h0A []).enc,(It.mk 2 0 [] []).enc,(It.mk 2 0 (i0E kid pb) []).enc]=_
  rw[e0J (k:=3) (m:=3) (b:=h0A) rfl (.inr rfl) (by decide),e0J (k:=2) (m:=2) rfl (.inl rfl) (by simp),e0J (k:=2) (m:=2) rfl (.inl rfl) h3]
  rfl
 rw[n0A (by show 3<24;omega),e];rfl
def k0G (kid:List UInt8)(piv:Int):List UInt8×Int:=if 7<kid.length then([],1)else if piv<0∨1099511627775<piv then([],8)else(s0L kid (b0N piv),0)
abbrev by8 (a:UInt8):AV:= .val (.int .u8 (a.toNat:Int))
theorem c0E {p:UInt8→Prop}(h: ∀n:Nat,n<256→p (UInt8.ofNat n))(a:UInt8):p a:=by
 have:=h a.toNat a.toNat_lt
 rwa [UInt8.ofNat_toNat]at this
def dbl (a:UInt8):UInt8:=if a&&&128=0 then a<<<1 else(a<<<1)^^^27
theorem s0u (a:UInt8):Go.bits .xor .u8 (IntKind.u8.wrap ((a.toNat:Int)*2)) 27=(((a<<<1)^^^27).toNat:Int):=c0E (p:=fun a=>Go.bits .xor .u8 (IntKind.u8.wrap ((a.toNat:Int)*2)) 27=(((a<<<1)^^^27).toNat:Int)) (by decide +kernel) a
theorem s0v (a:UInt8):IntKind.u8.wrap ((a.toNat:Int)*2)=((a<<<1).toNat:Int):=c0E (p:=fun a=>IntKind.u8.wrap ((a.toNat:Int)*2)=((a<<<1).toNat:Int)) (by decide +kernel) a
theorem v0t (a:UInt8):Go.bits .and .u8 (a.toNat:Int) 128=((a&&&128).toNat:Int):=c0E (p:=fun a=>Go.bits .and .u8 (a.toNat:Int) 128=((a&&&128).toNat:Int)) (by decide +kernel) a
theorem w0d (a:UInt8):Go.bits .and .u8 (a.toNat:Int) 1=((a&&&1).toNat:Int):=c0E (p:=fun a=>Go.bits .and .u8 (a.toNat:Int) 1=((a&&&1).toNat:Int)) (by decide +kernel) a
theorem j0J {a:UInt8}:(a.toNat:Int)=0↔a=0:=⟨fun h=>UInt8.toNat_inj.1 (by simpa using h),fun h=>by subst h;rfl⟩
theorem j0I {a:UInt8}:(a.toNat:Int)=1↔a=1:=⟨fun h=>UInt8.toNat_inj.1 (by simp;omega),fun h=>by subst h;rfl⟩
theorem k0w (a:UInt8):Sp Tryz.prog 195 [by8 a] [] (Is (by8 (dbl a))):=by
 refine yH Tryz.func195 _ Tryz.ntmps195 (fun w0 R0=> ?_)
 refine zC (zq ?_)
 refine zc (zH (zn (zC (zC (zq ?_)))))
 refine zb ?_
 refine vO (O.and_ rfl rfl rfl (v0t a)) ?_
 refine y8 (zH (zn ?_))
 refine ym (fun h=> ?_) (fun h=> ?_)<;>(try simp only[vU]at h)
 ·rw[j0J]at h
  refine zC (zq ?_)
  refine zb ?_
  refine vO (O.shlK 1 2 rfl rfl rfl rfl (by rfl) (by rfl)) ?_
  refine vO (O.xor_ rfl rfl rfl (s0u a)) ?_
  refine zc (zH (zn (y3 (xh ?_))))
  refine vm rfl rfl nS (⟨by rw[dbl,if_neg h],rfl⟩)
 rw[j0J]at h
 refine yU (zn (zC (zq ?_)))
 refine zb ?_
 refine vO (O.shlK 1 2 rfl rfl rfl rfl (by rfl) (by rfl)) ?_
 refine zc (zH (zn (y3 ?_)))
 refine vm rfl rfl nS (⟨by rw[dbl,if_pos h,s0v],rfl⟩)
def u0x (a:UInt8)(k:Nat):UInt8:=u8 (Go.bits .or .u8 (IntKind.u8.wrap ((a.toNat:Int)*2^min ((k:Int)%8).toNat IntKind.u8.bits)) (((a.toNat:Int)).fdiv (2^min (8-(k:Int)%8).toNat IntKind.u8.bits)))
theorem r0t (a:UInt8){k:Nat}(hk:k<8):Go.bits .or .u8 (IntKind.u8.wrap ((a.toNat:Int)*2^min ((k:Int)%8).toNat IntKind.u8.bits)) (((a.toNat:Int)).fdiv (2^min (8-(k:Int)%8).toNat IntKind.u8.bits))=((u0x a k).toNat:Int):=
 c0E (p:=fun a=> ∀k:Nat,k<8→Go.bits .or .u8 (IntKind.u8.wrap ((a.toNat:Int)*2^min ((k:Int)%8).toNat IntKind.u8.bits)) (((a.toNat:Int)).fdiv (2^min (8-(k:Int)%8).toNat IntKind.u8.bits))=((u0x a k).toNat:Int)) (by decide +kernel) a k hk
theorem r0u (a:UInt8)(k:Nat)(hk:k<8):Sp Tryz.prog 196 [by8 a,.val (.int .i64 (k:Int))] [] (Is (by8 (u0x a k))):=by
 refine yH Tryz.func196 _ Tryz.ntmps196 (fun w0 R0=> ?_)
 refine zC (zq ?_)
 refine zc (zH (zn (zC (zq ?_))))
 refine zb ?_
 refine wd ?_
 refine vO (O.and_ rfl rfl rfl (q0K 3 (by decide) (by decide) (m:=8) (by decide) (by omega))) ?_
 refine zc (zH (zn (zC (zq ?_))))
 refine zb ?_
 refine zb ?_
 refine vO (O.shl rfl rfl rfl (by omega) rfl) ?_
 refine zb ?_
 refine zb ?_
 refine vO (O.sub rfl rfl rfl (by exact o0n (by omega))) ?_
 refine vO (O.shr rfl rfl rfl (by omega) rfl) ?_
 refine vO (O.or_ rfl rfl rfl rfl) ?_
 refine zc (zH (zn (y3 ?_)))
 refine vm rfl rfl nS (⟨by rw[r0t a hk],rfl⟩)
def h0V:Nat→UInt8→UInt8→UInt8→UInt8
 |0,_,_,p=>p
 |n+1,a,b,p=>h0V n (dbl a) (b>>>1) (if b&&&1=1 then p^^^a else p)
def l0b (a b:UInt8):UInt8:=h0V 8 a b 0
theorem g0z: ∀n a p,h0V n a 0 p=p
 |0,_,_=>rfl
 |n+1,a,p=>by
  show h0V n (dbl a) ((0:UInt8)>>>1) (if(0:UInt8)&&&1=1 then p^^^a else p)=p
  rw[show(0:UInt8)>>>1=0 from rfl,if_neg (by decide)]
  exact g0z n _ p
theorem v0H (b:UInt8):((b>>>1).toNat:Int)=(b.toNat:Int)/2:=c0E (p:=fun b=>((b>>>1).toNat:Int)=(b.toNat:Int)/2) (by decide +kernel) b
theorem l0a (a b:UInt8):Sp Tryz.prog 212 [by8 a,by8 b] [] (Is (by8 (l0b a b))):=by
 refine yH Tryz.func212 _ Tryz.ntmps212 (fun w0 R0=> ?_)
 refine zC (zq ?_)
 refine zc (zH (zn (zC (zq ?_))))
 refine zc (zH (zn (zC (xb ?_))))
 refine AW.loopK [] (fun nn E H=> ∃(x:UInt8) (y:UInt8) (p:UInt8) (m:Nat),(h0V m x y p=l0b a b)∧(y.toNat<2^m)∧nn=y.toNat∧E= [(0,by8 x),(1,by8 y),(5,by8 p)]∧H= []) _ (⟨a,b,0,8,rfl,b.toNat_lt,rfl,rfl,rfl⟩) (by repeat(exact a0m)) (by repeat(first|exact a0m|refine a0k rfl ?_)) (by repeat(exact a0B)) ?_
 rintro nn E H ⟨x,y,p,m,hp,hm,rfl,rfl,rfl⟩
 dsimp only[cA,cN]
 refine zC (zC (zq ?_))
 refine zb ?_
 refine y8 (zH (zn ?_))
 refine ym (fun h=> ?_) (fun h=> ?_)<;>(try simp only[vU]at h)
 ·rw[j0J]at h
  obtain⟨m,rfl⟩: ∃m',m=m'+1:=by
   cases m with
   |zero=>exact absurd (UInt8.toNat_inj.1 (by simpa using hm)) h
   |succ m=>exact⟨m,rfl⟩
  have hpos:0<y.toNat:=by
   rcases Nat.eq_zero_or_pos y.toNat with h0|h0
   ·exact absurd (UInt8.toNat_inj.1 h0) h
   exact h0
  have hsh:=v0H y
  have hm2:(y>>>1).toNat<2^m:=by rw[Nat.pow_succ]at hm;omega
  refine yU (zn (zC (xb (zC (zC (zq ?_))))))
  refine zb ?_
  refine vO (O.and_ rfl rfl rfl (w0d _)) ?_
  refine yi (zH (zn ?_))
  refine ym (fun h1=> ?_) (fun h1=> ?_)<;>(try simp only[vU]at h1)
  ·rw[j0I]at h1
   refine zq ?_
   refine zb ?_
   refine zb ?_
   refine vE ?_
   refine zc (zH (zn (zq ?_)))
   refine zb ?_
   refine vO (xD rfl Tryz.func195 rfl rfl rfl (k0w _)) ?_
   refine zc (zH (xA (zn (zq ?_))))
   refine zb ?_
   refine vO (wB 1 2) ?_
   refine zc (zH ?_)
   rw[←hsh]
   refine wq _ _ _ (by omega) (⟨dbl x,y>>>1,p^^^x,m,by rw[←hp,h0V,if_pos h1],hm2,rfl,rfl,rfl⟩)
  rw[j0I]at h1
  refine yU (zn (zq ?_))
  refine zb ?_
  refine vO (xD rfl Tryz.func195 rfl rfl rfl (k0w _)) ?_
  refine zc (zH (xA (zn (zq ?_))))
  refine zb ?_
  refine vO (wB 1 2) ?_
  refine zc (zH ?_)
  rw[←hsh]
  refine wq _ _ _ (by omega) (⟨dbl x,y>>>1,p,m,by rw[←hp,h0V,if_neg h1],hm2,rfl,rfl,rfl⟩)
 rw[j0J]at h
 subst h
 rw[g0z]at hp
 subst hp
 refine wm ?_
 refine xY ?_
 refine wa ?_
 refine xq (zn (zC (zq ?_)))
 refine zb ?_
 refine zc (zH (zn (y3 ?_)))
 refine yw
def u0B:Nat→UInt8→UInt8→UInt8→UInt8
 |0,_,_,p=>p
 |n+1,a,b,p=>u0B n (dbl a) (b>>>1) (if b&&&1=1 then p^^^a else p)
theorem n0h: ∀n a b p,u0B n a b p=h0V n a b p
 |0,_,_,_=>rfl
 |n+1,a,b,p=>n0h n _ _ _
theorem u0w (a:UInt8):((a.toNat:Int)/128=1)↔ ¬a&&&128=0:=c0E (p:=fun a=>((a.toNat:Int)/128=1)↔ ¬a&&&128=0) (by decide +kernel) a
theorem u0f {a:UInt8}(h: ¬a&&&128=0):dbl a=(a<<<1)^^^27:=if_neg h
theorem u0g {a:UInt8}(h:a&&&128=0):dbl a=a<<<1:=if_pos h
theorem n0g (a b:UInt8):Sp Tryz.prog 209 [by8 a,by8 b] [] (Is (by8 (l0b a b))):=by
 refine yH Tryz.func209 _ Tryz.ntmps209 (fun w0 R0=> ?_)
 refine zC (zq ?_)
 refine zc (zH (zn (zC (zq ?_))))
 refine zc (zH (zn (zC (zC (zq ?_)))))
 refine zb (zH (zn (xb ?_)))
 refine AW.loopK [] (fun nn E H=> ∃(k:Nat) (x:UInt8) (y:UInt8) (p:UInt8),(k≤8)∧(u0B (8-k) x y p=l0b a b)∧nn=8-k∧E= [(0,by8 x),(1,by8 y),(5,by8 p),(7,.val (.int .i64 (k:Int)))]∧H= []) _ (⟨0,a,b,0,by omega,n0h 8 a b 0,rfl,rfl,rfl⟩) (by repeat(exact a0m)) (by repeat(first|exact a0m|refine a0k rfl ?_)) (by repeat(exact a0B)) ?_
 rintro nn E H ⟨k,x,y,p,hk,hp,rfl,rfl,rfl⟩
 dsimp only[cA,cN]
 refine zC (zq ?_)
 refine zR (zH (zn (zC ?_)))
 refine ym (fun h=> ?_) (fun h=> ?_)<;>(try simp only[vU]at h)
 ·obtain⟨m,hm⟩: ∃m,8-k=m+1:=⟨7-k,by omega⟩
  have hm':8-(k+1)=m:=by omega
  rw[hm,u0B]at hp
  have hsh:=v0H y
  refine yU (zn (zC (xb (zC (zC (zq ?_))))))
  refine zb ?_
  refine vO (O.and_ rfl rfl rfl (w0d _)) ?_
  refine yi (zH (zn ?_))
  refine ym (fun h1=> ?_) (fun h1=> ?_)<;>(try simp only[vU]at h1)
  ·rw[j0I]at h1
   rw[if_pos h1]at hp
   refine zq ?_
   refine zb ?_
   refine zb ?_
   refine vE ?_
   refine zc (zH (zn (zC (zq ?_))))
   refine zb ?_
   refine vO (wB 7 128) ?_
   refine zc (zH (zn (zC (zq ?_))))
   refine zb ?_
   refine vO (O.shlK 1 2 rfl rfl rfl rfl (by rfl) (by rfl)) ?_
   refine zc (zH (zn (zC (zC (zq ?_)))))
   refine zb ?_
   refine yi (zH (zn ?_))
   refine ym (fun h2=> ?_) (fun h2=> ?_)<;>(try simp only[vU]at h2)
   ·rw[u0w]at h2
    refine zq ?_
    refine zb ?_
    refine vO (O.xor_ rfl rfl rfl (s0u _)) ?_
    refine zc (zH (zn (zq ?_)))
    refine zb ?_
    refine vO (wB 1 2) ?_
    refine zc (zH (xA (zn (zq ?_))))
    refine zx ?_
    refine zb (zH ?_)
    rw[←hsh]
    rw[←u0f h2]
    refine wq _ _ _ (by omega) (⟨k+1,dbl x,y>>>1,p^^^x,by omega,by rw[hm'];exact hp,rfl,rfl,rfl⟩)
   rw[u0w,Decidable.not_not]at h2
   refine yU (zn (zq ?_))
   refine zb ?_
   refine vO (wB 1 2) ?_
   refine zc (zH (xA (zn (zq ?_))))
   refine zx ?_
   refine zb (zH ?_)
   rw[←hsh,s0v]
   rw[←u0g h2]
   refine wq _ _ _ (by omega) (⟨k+1,dbl x,y>>>1,p^^^x,by omega,by rw[hm'];exact hp,rfl,rfl,rfl⟩)
  rw[j0I]at h1
  rw[if_neg h1]at hp
  refine yU (zn (zC (zq ?_)))
  refine zb ?_
  refine vO (wB 7 128) ?_
  refine zc (zH (zn (zC (zq ?_))))
  refine zb ?_
  refine vO (O.shlK 1 2 rfl rfl rfl rfl (by rfl) (by rfl)) ?_
  refine zc (zH (zn (zC (zC (zq ?_)))))
  refine zb ?_
  refine yi (zH (zn ?_))
  refine ym (fun h2=> ?_) (fun h2=> ?_)<;>(try simp only[vU]at h2)
  ·rw[u0w]at h2
   refine zq ?_
   refine zb ?_
   refine vO (O.xor_ rfl rfl rfl (s0u _)) ?_
   refine zc (zH (zn (zq ?_)))
   refine zb ?_
   refine vO (wB 1 2) ?_
   refine zc (zH (xA (zn (zq ?_))))
   refine zx ?_
   refine zb (zH ?_)
   rw[←hsh]
   rw[←u0f h2]
   refine wq _ _ _ (by omega) (⟨k+1,dbl x,y>>>1,p,by omega,by rw[hm'];exact hp,rfl,rfl,rfl⟩)
  rw[u0w,Decidable.not_not]at h2
  refine yU (zn (zq ?_))
  refine zb ?_
  refine vO (wB 1 2) ?_
  refine zc (zH (xA (zn (zq ?_))))
  refine zx ?_
  refine zb (zH ?_)
  rw[←hsh,s0v]
  rw[←u0g h2]
  refine wq _ _ _ (by omega) (⟨k+1,dbl x,y>>>1,p,by omega,by rw[hm'];exact hp,rfl,rfl,rfl⟩)
 obtain rfl:k=8:=by omega
 have hp:p=l0b a b:=hp
 subst hp
 refine wm ?_
 refine xY ?_
 refine wa ?_
 refine xq (zn (zC (zq ?_)))
 refine zb ?_
 refine zc (zH (zn (y3 ?_)))
 refine yw
def r0s (a:UInt8)(k:Nat):UInt8:=u8 (Go.bits .or .u8 (IntKind.u8.wrap ((a.toNat:Int)*2^min ((k:Int)).toNat IntKind.u8.bits)) (((a.toNat:Int)).fdiv (2^min (8-(k:Int)).toNat IntKind.u8.bits)))
theorem r0r (a:UInt8){k:Nat}(hk:k<8):Go.bits .or .u8 (IntKind.u8.wrap ((a.toNat:Int)*2^min ((k:Int)).toNat IntKind.u8.bits)) (((a.toNat:Int)).fdiv (2^min (8-(k:Int)).toNat IntKind.u8.bits))=((r0s a k).toNat:Int):=
 c0E (p:=fun a=> ∀k:Nat,k<8→Go.bits .or .u8 (IntKind.u8.wrap ((a.toNat:Int)*2^min ((k:Int)).toNat IntKind.u8.bits)) (((a.toNat:Int)).fdiv (2^min (8-(k:Int)).toNat IntKind.u8.bits))=((r0s a k).toNat:Int)) (by decide +kernel) a k hk
theorem j0T (a:UInt8)(k:Nat)(hk:k<8):Sp Tryz.prog 210 [by8 a,.val (.int .i64 (k:Int))] [] (Is (by8 (r0s a k))):=by
 refine yH Tryz.func210 _ Tryz.ntmps210 (fun w0 R0=> ?_)
 refine zC (zq ?_)
 refine zc (zH (zn (zC (zq ?_))))
 refine zb ?_
 refine zb ?_
 refine wd ?_
 refine vO (O.shl rfl rfl rfl (by omega) rfl) ?_
 refine zb ?_
 refine zb ?_
 refine yG ?_
 refine wd ?_
 refine vO (O.shr rfl rfl rfl (by omega) rfl) ?_
 refine vO (O.or_ rfl rfl rfl rfl) ?_
 refine zc (zH (zn (y3 ?_)))
 refine vm rfl rfl nS (⟨by rw[r0r a hk],rfl⟩)
end Go.Proofs.YtojomcdjcpmnkaaGreat.By
namespace Go.Proofs.YtojomcdjcpmnkaaGreat.By
open Go.RowKit L A
def k256:List UInt32:= [0x428a2f98,0x71374491,0xb5c0fbcf,0xe9b5dba5,0x3956c25b,0x59f111f1,0x923f82a4,0xab1c5ed5,0xd807aa98,0x12835b01,0x243185be,0x550c7dc3,0x72be5d74,0x80deb1fe,0x9bdc06a7,0xc19bf174,0xe49b69c1,0xefbe4786,0x0fc19dc6,0x240ca1cc,0x2de92c6f,0x4a7484aa,0x5cb0a9dc,0x76f988da,0x983e5152,0xa831c66d,0xb00327c8,0xbf597fc7,0xc6e00bf3,0xd5a79147,0x06ca6351,0x14292967,0x27b70a85,0x2e1b2138,0x4d2c6dfc,0x53380d13,0x650a7354,0x766a0abb,0x81c2c92e,0x92722c85,0xa2bfe8a1,0xa81a664b,0xc24b8b70,0xc76c51a3,0xd192e819,0xd6990624,0xf40e3585,0x106aa070,0x19a4c116,0x1e376c08,0x2748774c,0x34b0bcb5,0x391c0cb3,0x4ed8aa4a,0x5b9cca4f,0x682e6ff3,0x748f82ee,0x78a5636f,0x84c87814,0x8cc70208,0x90befffa,0xa4506ceb,0xbef9a3f7,0xc67178f2]
structure H8 where
 a:UInt32
 b:UInt32
 c:UInt32
 d:UInt32
 e:UInt32
 f:UInt32
 g:UInt32
 h:UInt32
 deriving DecidableEq
def p0B:H8:=⟨0x6a09e667,0xbb67ae85,0x3c6ef372,0xa54ff53a,0x510e527f,0x9b05688c,0x1f83d9ab,0x5be0cd19⟩
def rr (x n:UInt32):UInt32:=(x>>>n)|||(x<<<(32-n))
def k0K (b:List UInt8)(t:Nat):UInt32:=((b.getD (4*t) 0).toUInt32<<<24)|||((b.getD (4*t+1) 0).toUInt32<<<16)|||((b.getD (4*t+2) 0).toUInt32<<<8)|||(b.getD (4*t+3) 0).toUInt32
def l0h (w:List UInt32)(t:Nat):UInt32:=
 let x:=w.getD (t-15) 0
 let y:=w.getD (t-2) 0
 (rr y 17^^^rr y 19^^^ (y>>>10))+w.getD (t-7) 0+(rr x 7^^^rr x 18^^^ (x>>>3))+w.getD (t-16) 0
def wTo (b:List UInt8):Nat→List UInt32
 |0=> []
 |t+1=>let w:=wTo b t;w++[if t<16 then k0K b t else l0h w t]
def rnd (k w:UInt32)(s:H8):H8:=
 let t1:=s.h+(rr s.e 6^^^rr s.e 11^^^rr s.e 25)+((s.e&&&s.f)^^^ (~~~s.e&&&s.g))+k+w
 let t2:=(rr s.a 2^^^rr s.a 13^^^rr s.a 22)+((s.a&&&s.b)^^^ (s.a&&&s.c)^^^ (s.b&&&s.c))
 ⟨t1+t2,s.a,s.b,s.c,s.d+t1,s.e,s.f,s.g⟩
def r0w (w:List UInt32)(s:H8):Nat→H8
 |0=>s
 |t+1=>rnd (k256.getD t 0) (w.getD t 0) (r0w w s t)
def v0x (x y:H8):H8:=⟨x.a+y.a,x.b+y.b,x.c+y.c,x.d+y.d,x.e+y.e,x.f+y.f,x.g+y.g,x.h+y.h⟩
def k0z (h:H8)(b:List UInt8):H8:=v0x h (r0w (wTo b 64) h 64)
def h0Y (n:Nat):Nat:=(119-n%64)%64
def t0L (n:Nat):List UInt8:= [56,48,40,32,24,16,8,0].map fun s=>UInt8.ofNat (n*8/2^s)
def p0e (b:List UInt8):List UInt8:=b++[128]++List.replicate (h0Y b.length) 0++t0L b.length
def c0S (p:List UInt8):Nat→H8
 |0=>p0B
 |k+1=>k0z (c0S p k) ((p.drop (64*k)).take 64)
def w4 (x:UInt32):List UInt8:= [(x>>>24).toUInt8,(x>>>16).toUInt8,(x>>>8).toUInt8,x.toUInt8]
def v0i (h:H8):List UInt8:=w4 h.a++w4 h.b++w4 h.c++w4 h.d++w4 h.e++w4 h.f++w4 h.g++w4 h.h
def sha (b:List UInt8):List UInt8:=v0i (c0S (p0e b) ((p0e b).length/64))
theorem g0X (b:List UInt8):(sha b).length=32:=rfl
theorem p0d (b:List UInt8):(p0e b).length%64=0:=by
 simp only[p0e,cH,List.length_replicate,List.length_singleton,show(t0L b.length).length=8 from rfl,h0Y]
 omega
def s0m (k:List UInt8):List UInt8:=let x:=if 64<k.length then sha k else k;x++List.replicate (64-x.length) 0
def k0p (k b:List UInt8):List UInt8:=sha ((s0m k).map (· ^^^92)++sha ((s0m k).map (· ^^^54)++b))
theorem p0z (k b:List UInt8):(k0p k b).length=32:=rfl
def j0i (prk info:List UInt8):Nat→List UInt8
 |0=> []
 |k+1=>k0p prk (j0i prk info k++info++[UInt8.ofNat (k+1)])
def c0n (prk info:List UInt8)(k:Nat):List UInt8:=(List.range k).flatMap fun i=>j0i prk info (i+1)
def f0H (prk info:List UInt8)(n:Nat):List UInt8:=(c0n prk info ((n+31)/32)).take n
end Go.Proofs.YtojomcdjcpmnkaaGreat.By
namespace Go.Proofs.YtojomcdjcpmnkaaGreat.A
open Go.RowKit L
theorem c0X (x:Int):IntKind.u32.wrap x=x%4294967296:=by
 show(if false=true∧x% (2^32)≥2^ (32-1)then x% (2^32)-2^32 else x% (2^32))=_
 rw[if_neg (by simp)];rfl
theorem f0f (n:Int)(h0:0≤n)(h1:n<2^32):IntKind.u32.wrap n=n:=by rw[c0X];omega
theorem f0X {a b:UInt32}:IntKind.u32.wrap ((a.toNat:Int)+(b.toNat:Int))=((a+b).toNat:Int):=by
 rw[c0X,UInt32.toNat_add];omega
theorem t0b {a b:UInt32}:Go.bits .xor .u32 (a.toNat:Int) (b.toNat:Int)=((a^^^b).toNat:Int):=by
 have e:(BitVec.ofInt 32 (a.toNat:Int)^^^BitVec.ofInt 32 (b.toNat:Int)).toNat=(a^^^b).toNat:=by
  rw[BitVec.toNat_xor,BitVec.ofInt_natCast,BitVec.ofInt_natCast,BitVec.toNat_ofNat,BitVec.toNat_ofNat,Nat.mod_eq_of_lt a.toNat_lt,Nat.mod_eq_of_lt b.toNat_lt,UInt32.toNat_xor]
 show IntKind.u32.wrap ((BitVec.ofInt 32 (a.toNat:Int)^^^BitVec.ofInt 32 (b.toNat:Int)).toNat:Int)=_
 rw[e]
 have:=(a^^^b).toNat_lt
 exact f0f _ (by omega) (by omega)
theorem o0a {a b:UInt32}:Go.bits .and .u32 (a.toNat:Int) (b.toNat:Int)=((a&&&b).toNat:Int):=by
 have e:(BitVec.ofInt 32 (a.toNat:Int)&&&BitVec.ofInt 32 (b.toNat:Int)).toNat=(a&&&b).toNat:=by
  rw[BitVec.toNat_and,BitVec.ofInt_natCast,BitVec.ofInt_natCast,BitVec.toNat_ofNat,BitVec.toNat_ofNat,Nat.mod_eq_of_lt a.toNat_lt,Nat.mod_eq_of_lt b.toNat_lt,UInt32.toNat_and]
 show IntKind.u32.wrap ((BitVec.ofInt 32 (a.toNat:Int)&&&BitVec.ofInt 32 (b.toNat:Int)).toNat:Int)=_
 rw[e]
 have:=(a&&&b).toNat_lt
 exact f0f _ (by omega) (by omega)
theorem u0z {a b:UInt32}:Go.bits .or .u32 (a.toNat:Int) (b.toNat:Int)=((a|||b).toNat:Int):=by
 have e:(BitVec.ofInt 32 (a.toNat:Int)|||BitVec.ofInt 32 (b.toNat:Int)).toNat=(a|||b).toNat:=by
  rw[BitVec.toNat_or,BitVec.ofInt_natCast,BitVec.ofInt_natCast,BitVec.toNat_ofNat,BitVec.toNat_ofNat,Nat.mod_eq_of_lt a.toNat_lt,Nat.mod_eq_of_lt b.toNat_lt,UInt32.toNat_or]
 show IntKind.u32.wrap ((BitVec.ofInt 32 (a.toNat:Int)|||BitVec.ofInt 32 (b.toNat:Int)).toNat:Int)=_
 rw[e]
 have:=(a|||b).toNat_lt
 exact f0f _ (by omega) (by omega)
theorem u0V {a:UInt32}{n:Nat}(hn:n<32):((a.toNat:Int)).fdiv (2^ (min ((n:Int)).toNat IntKind.u32.bits))=((a>>>UInt32.ofNat n).toNat:Int):=by
 rw[Int.toNat_natCast,show IntKind.u32.bits=32 from rfl,Nat.min_eq_left (by omega),UInt32.toNat_shiftRight,UInt32.toNat_ofNat',Nat.shiftRight_eq_div_pow,
  show n%2^32%32=n by rw[Nat.mod_eq_of_lt (show n<2^32 by omega)];omega,Int.fdiv_eq_ediv_of_nonneg _ (Int.le_of_lt (Int.pow_pos (by decide)))]
 simp
theorem u0W {a:UInt32}{n:Nat}(hn:n<32):IntKind.u32.wrap ((a.toNat:Int)*2^ (min ((n:Int)).toNat IntKind.u32.bits))=((a<<<UInt32.ofNat n).toNat:Int):=by
 rw[Int.toNat_natCast,show IntKind.u32.bits=32 from rfl,Nat.min_eq_left (by omega),UInt32.toNat_shiftLeft,UInt32.toNat_ofNat',Nat.shiftLeft_eq,
  show n%2^32%32=n by rw[Nat.mod_eq_of_lt (show n<2^32 by omega)];omega,c0X]
 simp
theorem d0R {b:UInt8}:IntKind.u32.wrap (b.toNat:Int)=(b.toUInt32.toNat:Int):=by
 have:=b.toNat_lt
 rw[c0X,UInt8.toNat_toUInt32];omega
theorem d0S {a:UInt32}:IntKind.u8.wrap (a.toNat:Int)=(a.toUInt8.toNat:Int):=by
 rw[d0A,UInt32.toNat_toUInt8]
 simp only[u8,UInt8.toNat_ofNat']
 omega
section
variable {P:Program}{E:Env}{H:List HE}{N:Nat}{o:Oper}
theorem com32 {a:UInt32}:Go.bits .xor .u32 IntKind.u32.max (a.toNat:Int)=((~~~a).toNat:Int):=by
 have h:IntKind.u32.max=((4294967295:UInt32).toNat:Int):=by decide
 rw[h,t0b]
 congr 2
theorem O.com32 {T:Nat}{x:Operand}{a:UInt32}(ho:o.op= .unOp .xor T x)(hx:ev E x=some (.val (.int .u32 (a.toNat:Int)))):OpW P N o E H (Is (.val (.int .u32 ((~~~a).toNat:Int)))):= .of_run fun R a' W h1 h2 ha=>
 ⟨.int .u32 ((~~~a).toNat:Int),by
  have e:(Op.intBits .xor .u32 IntKind.u32.max (a.toNat:Int)).run P W= .ok (.int .u32 ((~~~a).toNat:Int)) W:=by
   rw[←A.com32];rfl
  simp[execOp,ho,(ha.ev hx).val_inv,Op.unary,show IntKind.u32.signed=false from rfl,e],.val _⟩
end
abbrev e32 (a:UInt32):Value:= .int .u32 (a.toNat:Int)
abbrev e64 (a:UInt64):Value:= .int .u64 (a.toNat:Int)
section
variable {α:Type}{e:α→Value}
def arK (e:α→Value)(n:Nat)(f:Nat→α):List AV:=(List.range n).map fun q=>AV.val (e (f q))
theorem j0x (n:Nat)(f:Nat→α):(arK e n f).length=n:=by simp[arK]
theorem n0Y {n:Nat}{f:Nat→α}{k:Nat}(h:k<n){j:Nat}(hj:j=k):(arK e n f)[j]? =some (.val (e (f k))):=by subst hj;simp[arK,h]
theorem f0T {n:Nat}{f g:Nat→α}(h: ∀q,q<n→f q=g q):arK e n f=arK e n g:=List.map_congr_left fun q hq=>by rw[h q (List.mem_range.1 hq)]
theorem j0w {n:Nat}{f:Nat→α}{k:Nat}(h:k<n)(v:α){j:Nat}(hj:j=k):a0e (arK e n f) j [.val (e v)]=arK e n (fun q=>if q=k then v else f q):=by
 subst hj
 show(arK e n f).set j _=_
 apply List.ext_getElem?
 intro q
 rw[List.getElem?_set,arK,arK]
 by_cases hq:q<n
 ·by_cases e':j=q
  ·subst e';simp[h]
  ·simp[hq,e',show ¬q=j from fun e''=>e' e''.symm]
 ·by_cases e':j=q
  ·subst e';omega
  ·simp[hq,e']
end
end Go.Proofs.YtojomcdjcpmnkaaGreat.A
namespace Go.Proofs.YtojomcdjcpmnkaaGreat.By
open Go.RowKit L A
theorem l0N (b:List UInt8): ∀t,(wTo b t).length=t
 |0=>rfl
 |t+1=>by
  show(wTo b t++[_]).length=_
  rw[cH,l0N b t];rfl
theorem o0o (b:List UInt8)(t q:Nat):(wTo b (t+1)).getD q 0=if q=t then(if t<16 then k0K b t else l0h (wTo b t) t)else(wTo b t).getD q 0:=by
 show(wTo b t++[_]).getD q 0=_
 have hl:=l0N b t
 by_cases h:q=t
 ·subst h
  rw[if_pos rfl,List.getD_eq_getElem?_getD,List.getElem?_append_right (by omega),hl]
  simp
 rw[if_neg h]
 simp only[List.getD_eq_getElem?_getD]
 by_cases h2:q<t
 ·rw[List.getElem?_append_left (by omega)]
 rw[List.getElem?_append_right (by omega),hl]
 have h3:1≤q-t:=by omega
 rw[List.getElem?_eq_none (by simpa using h3),List.getElem?_eq_none (by omega)]
def o0j (b:List UInt8)(t:Nat):List AV:=arK e32 64 fun q=>(wTo b t).getD q 0
theorem j0E (b:List UInt8){t:Nat}(ht:t<64){v:UInt32}(hv:v=if t<16 then k0K b t else l0h (wTo b t) t){j:Nat}(hj:j=t):a0e (o0j b t) j [.val (e32 v)]=o0j b (t+1):=by
 unfold o0j
 rw[j0w ht v hj]
 exact f0T fun q _=>by rw[o0o,hv]
theorem d0B (b:List UInt8)(t:Nat){k:Nat}(hk:k<64){j:Nat}(hj:j=k):(o0j b t)[j]? =some (.val (e32 ((wTo b t).getD k 0))):=n0Y hk hj
abbrev c8 (s:H8):List AV:= [.val (e32 s.a),.val (e32 s.b),.val (e32 s.c),.val (e32 s.d),.val (e32 s.e),.val (e32 s.f),.val (e32 s.g),.val (e32 s.h)]
theorem m0s (w:List UInt32)(s:H8)(t:Nat):r0w w s (t+1)=rnd (k256.getD t 0) (w.getD t 0) (r0w w s t):=rfl
theorem p0c (n:Nat):(n+1+h0Y n)%64=56:=by unfold h0Y;omega
theorem j0c {n k:Nat}(h:k<h0Y n):(n+1+k)%64≠56:=by unfold h0Y at h;omega
theorem m0P (n:Nat):h0Y n<64:=by unfold h0Y;omega
theorem r0R {n k:Nat}(hk:k≤h0Y n)(h:(n+1+k)%64=56):k=h0Y n:=by
 by_cases g:k<h0Y n
 ·exact absurd h (j0c g)
 omega
def l0m (n k:Nat):List UInt8:=(t0L n).take k
theorem n0l (n:Nat):l0m n 8=t0L n:=rfl
theorem l0l (n:Nat){k:Nat}(hk:k<8):l0m n (k+1)=l0m n k++[UInt8.ofNat (n*8/2^ (8*(7-k)))]:=by
 match k,hk with
 |0,_|1,_|2,_|3,_|4,_|5,_|6,_|7,_=>rfl
theorem t0l (b:List UInt8){p:List UInt8}{k:Nat}(hp:p=p0e b)(hk:64*k=p.length):v0i (c0S p k)=sha b:=by
 subst hp
 unfold sha
 rw[←hk,Nat.mul_div_cancel_left _ (by omega)]
theorem p0u (k:List UInt8):(s0m k).length=64:=by
 unfold s0m
 by_cases h:64<k.length
 ·simp only[if_pos h,cH,List.length_replicate,g0X]
 simp only[if_neg h,cH,List.length_replicate];omega
theorem h0p (prk info:List UInt8)(k:Nat):(j0i prk info (k+1)).length=32:=rfl
theorem f0I (prk info:List UInt8)(k:Nat):c0n prk info (k+1)=c0n prk info k++j0i prk info (k+1):=by
 unfold c0n
 rw[List.range_succ,List.flatMap_append]
 simp
theorem e0p (prk info:List UInt8): ∀k,(c0n prk info k).length=32*k
 |0=>rfl
 |k+1=>by rw[f0I,cH,e0p prk info k,h0p];omega
theorem e0o {prk info:List UInt8}{n:Nat}:(f0H prk info n).length=n:=by
 unfold f0H
 rw[List.length_take,e0p]
 omega
end Go.Proofs.YtojomcdjcpmnkaaGreat.By
namespace Go.Proofs.YtojomcdjcpmnkaaGreat.A
open Go.RowKit L
section
variable {Γ:Cx}{P:Program}{Q:Exit→Act→World→Prop}{E:Env}{H:List HE}{N:Nat}{o:Oper}{ops:Array Oper}{rest:List Oper}
theorem O.sliceLHm {m:Nat}{T:Nat}{x y y':Operand}{full:Bool}{n:Nat}{l h:Nat}{kk kk':IntKind}{z z':Int}{xs ys:List AV}{U sz bs:Nat}{zz:Value}[hs:TyS P T U sz bs zz](ho:o.op= .slice T x (some y) (some y') none)(hx:ev E x=some (.ro full n xs))(hy:ev E y=some (.val (.int kk z)))(hy':ev E y'=some (.val (.int kk' z')))
  (hz:z=(l:Int)) (hz':z'=(h:Int)) (hlh:l≤h) (hhn:h≤n) (hm:h-l=m) (hys:(xs.drop (l*sz)).take (m*sz)=ys):OpW P N o E H (Is (.ro false m ys)):=by
 subst hm
 exact O.sliceLH ho hx hy hy' hz hz' hlh hhn hys
end
theorem j0y {n m:Nat}{f g:Nat→UInt8}:arB n f++arB m g=arB (n+m) (fun q=>if q<n then f q else g (q-n)):=by
 apply List.ext_getElem?
 intro q
 rw[List.getElem?_append,a0b]
 by_cases h:q<n
 ·rw[if_pos h,a0p h rfl,a0p (k:=q) (by omega) rfl,if_pos h]
 ·rw[if_neg h]
  by_cases h2:q<n+m
  ·rw[a0p (k:=q-n) (by omega) rfl,a0p (k:=q) h2 rfl,if_neg h]
  ·rw[List.getElem?_eq_none (by rw[a0b];omega),List.getElem?_eq_none (by rw[a0b];omega)]
end Go.Proofs.YtojomcdjcpmnkaaGreat.A
namespace Go.Proofs.YtojomcdjcpmnkaaGreat.By
open Go.RowKit L A
attribute [local irreducible] AW AQ AO
theorem j0L {a:UInt32}{n:Nat}{z:Int}(hz:z=(n:Int))(hn:n<32):IntKind.u32.wrap ((a.toNat:Int)*2^ (min z.toNat IntKind.u32.bits))=((a<<<UInt32.ofNat n).toNat:Int):=by
 subst hz;exact u0W hn
theorem g0r {a:UInt32}{n:Nat}{z:Int}(hz:z=(n:Int))(hn:n<32):((a.toNat:Int)).fdiv (2^ (min z.toNat IntKind.u32.bits))=((a>>>UInt32.ofNat n).toNat:Int):=by
 subst hz;exact u0V hn
theorem o0H (x:UInt32)(n:Nat)(hn:0<n∧n<32):Sp Tryz.prog 211 [.val (e32 x),.val (.int .i64 (0-(n:Int)))] [] (Is (.val (e32 (rr x (UInt32.ofNat n))))):=by
 have hw:IntKind.u64.wrap (0-(n:Int))=18446744073709551616-(n:Int):=by rw[IntKind.wrap_u64];omega
 have hr:(x<<<UInt32.ofNat (32-n))|||(x>>>UInt32.ofNat n)=rr x (UInt32.ofNat n):=by
  unfold rr
  rw[UInt32.or_comm,show(32:UInt32)-UInt32.ofNat n=UInt32.ofNat (32-n) by rw[UInt32.ofNat_sub (by omega)];rfl]
 refine yH Tryz.func211 _ Tryz.ntmps211 (fun w0 R0=> ?_)
 refine zC (zq ?_)
 refine zc (zH (zn (zC (zq ?_))))
 refine zb ?_
 refine vO (O.conv rfl rfl (by rfl)) ?_
 refine vO (O.and_ rfl rfl rfl (q0K 5 (by decide) (by decide) (m:=32) (by decide) (by omega))) ?_
 refine zc (zH (zn (zC (zq ?_))))
 refine zb ?_
 refine zb ?_
 refine vO (O.shl rfl rfl rfl (by omega) (j0L (n:=32-n) (by omega) (by omega))) ?_
 refine zb ?_
 refine zb ?_
 refine vO (O.sub rfl rfl rfl (by exact o0n (by omega))) ?_
 refine vO (O.shr rfl rfl rfl (by omega) (g0r (n:=n) (by omega) (by omega))) ?_
 refine vO (O.or_ rfl rfl rfl u0z) ?_
 refine zc (zH (zn (y3 ?_)))
 refine vm rfl rfl nS (⟨by rw[hr],rfl⟩)
theorem d0s (x:UInt32)(n:Nat)(hn:0<n∧n<32):Sp Tryz.prog 205 [.val (e32 x),.val (.int .i64 (n:Int))] [] (Is (.val (e32 (rr x (UInt32.ofNat n))))):=by
 refine yH Tryz.func205 _ Tryz.ntmps205 (fun w0 R0=> ?_)
 refine zC (zq ?_)
 refine zc (zH (zn (zC (zq ?_))))
 refine zb ?_
 refine zb ?_
 refine vO (O.neg rfl rfl (by exact d0Z (by omega))) ?_
 refine vO (xD rfl Tryz.func211 rfl rfl rfl (o0H x n hn)) ?_
 refine zc (zH (zn (y3 ?_)))
 refine yw
def kk512:List UInt64:= [0x428a2f98d728ae22,0x7137449123ef65cd,0xb5c0fbcfec4d3b2f,0xe9b5dba58189dbbc,0x3956c25bf348b538,0x59f111f1b605d019,0x923f82a4af194f9b,0xab1c5ed5da6d8118,
 0xd807aa98a3030242,0x12835b0145706fbe,0x243185be4ee4b28c,0x550c7dc3d5ffb4e2,0x72be5d74f27b896f,0x80deb1fe3b1696b1,0x9bdc06a725c71235,0xc19bf174cf692694,
 0xe49b69c19ef14ad2,0xefbe4786384f25e3,0x0fc19dc68b8cd5b5,0x240ca1cc77ac9c65,0x2de92c6f592b0275,0x4a7484aa6ea6e483,0x5cb0a9dcbd41fbd4,0x76f988da831153b5,
 0x983e5152ee66dfab,0xa831c66d2db43210,0xb00327c898fb213f,0xbf597fc7beef0ee4,0xc6e00bf33da88fc2,0xd5a79147930aa725,0x06ca6351e003826f,0x142929670a0e6e70,
 0x27b70a8546d22ffc,0x2e1b21385c26c926,0x4d2c6dfc5ac42aed,0x53380d139d95b3df,0x650a73548baf63de,0x766a0abb3c77b2a8,0x81c2c92e47edaee6,0x92722c851482353b,
 0xa2bfe8a14cf10364,0xa81a664bbc423001,0xc24b8b70d0f89791,0xc76c51a30654be30,0xd192e819d6ef5218,0xd69906245565a910,0xf40e35855771202a,0x106aa07032bbd1b8,
 0x19a4c116b8d2d0c8,0x1e376c085141ab53,0x2748774cdf8eeb99,0x34b0bcb5e19b48a8,0x391c0cb3c5c95a63,0x4ed8aa4ae3418acb,0x5b9cca4f7763e373,0x682e6ff3d6b2b8a3,
 0x748f82ee5defb2fc,0x78a5636f43172f60,0x84c87814a1f0ab72,0x8cc702081a6439ec,0x90befffa23631e28,0xa4506cebde82bde9,0xbef9a3f7b2c67915,0xc67178f2e372532b,
 0xca273eceea26619c,0xd186b8c721c0c207,0xeada7dd6cde0eb1e,0xf57d4f7fee6ed178,0x06f067aa72176fba,0x0a637dc5a2c898a6,0x113f9804bef90dae,0x1b710b35131c471b,
 0x28db77f523047d84,0x32caab7b40c72493,0x3c9ebe0a15c9bebc,0x431d67c49c100d4c,0x4cc5d4becb3e42b6,0x597f299cfc657e2a,0x5fcb6fab3ad6faec,0x6c44198c4a475817]
def hh512:List UInt64:= [0x6a09e667f3bcc908,0xbb67ae8584caa73b,0x3c6ef372fe94f82b,0xa54ff53a5f1d36f1,0x510e527fade682d1,0x9b05688c2b3e6c1f,0x1f83d9abfb41bd6b,0x5be0cd19137e2179]
def kkA:List AV:=kk512.map fun a=> .val (e64 a)
theorem s0k:kkA.length=80:=rfl
instance :TyB Tryz.prog 226 ((List.range 80).map fun i=>(i*1,1)) (.agg ⟨List.replicate 80 (.int .u64 0)⟩):=⟨_,Tryz.type226,by kernel_rfl,.inr ⟨80,88,_,Tryz.underlying226,Tryz.type88,by kernel_rfl⟩⟩
theorem i0w:Sp Tryz.prog 204 [] [] (Is (.agg kkA)):=by
 refine yH Tryz.func204 _ Tryz.ntmps204 (fun w0 R0=> ?_)
 refine zC (zq ?_)
 refine zd ?_
 intro B1
 refine zH (zn (zC (zq ?_)))
 refine zM ?_
 refine za 0 (zH (zn (y3 ?_)))
 refine AQ.retCell rfl rfl (by repeat(exact List.Mem.head _)) (by rfl) rfl nS (⟨rfl,rfl⟩)
theorem l0p:Sp Tryz.prog 192 [] [] (Is (.agg (hh512.map fun a=> .val (e64 a)))):=by
 refine yH Tryz.func192 _ Tryz.ntmps192 (fun w0 R0=> ?_)
 refine zC (zq ?_)
 refine zd ?_
 intro B1
 refine zH (zn (zC (zq ?_)))
 refine zM ?_
 refine za 0 (zH (zn (y3 ?_)))
 refine AQ.retCell rfl rfl (by repeat(exact List.Mem.head _)) (by rfl) rfl nS (⟨rfl,rfl⟩)
theorem s0l {k:Nat}(h:k<80){j:Nat}(hj:j=k):kkA[j]? =some (.val (e64 (kk512.getD k 0))):=by
 subst hj
 have hl:kk512.length=80:=rfl
 simp[kkA,List.getD,show j<kk512.length by omega]
theorem v0m {t:Nat}(h:t<64):IntKind.u32.wrap (((kk512.getD t 0).toNat:Int)/4294967296)=((k256.getD t 0).toNat:Int):=by
 have key: ∀t,t<64→(kk512.getD t 0).toNat/4294967296=(k256.getD t 0).toNat:=by decide +kernel
 have:=key t h
 have h2:=(k256.getD t 0).toNat_lt
 rw[c0X]
 omega
theorem g0R (b:List UInt8)(t:Nat):(o0j b t).length=64:=j0x _ _
def h8 (s:H8)(q:Nat):UInt32:=match q with|0=>s.a|1=>s.b|2=>s.c|3=>s.d|4=>s.e|5=>s.f|6=>s.g|_=>s.h
def l0i (s r:H8)(i q:Nat):UInt32:=if q<i then h8 s q+h8 r q else h8 s q
theorem p0l (s r:H8)(i q:Nat):(if q=i then l0i s r i i+h8 r i else l0i s r i q)=l0i s r (i+1) q:=by
 unfold l0i
 by_cases h:q=i
 ·subst h;rw[if_pos rfl,if_neg (by omega),if_pos (by omega)]
 rw[if_neg h]
 by_cases h2:q<i
 ·rw[if_pos h2,if_pos (by omega)]
 rw[if_neg h2,if_neg (by omega)]
theorem p0m (s r:H8):arK e32 8 (l0i s r 8)=c8 (v0x s r):=rfl
theorem q0I (r:H8){k:Nat}(h:k<8){j:Nat}(hj:j=k):(c8 r)[j]? =some (.val (e32 (h8 r k))):=by
 subst hj
 have hc:j=0∨j=1∨j=2∨j=3∨j=4∨j=5∨j=6∨j=7:=by omega
 rcases hc with rfl|rfl|rfl|rfl|rfl|rfl|rfl|rfl<;>rfl
theorem n0i (s r:H8):arK e32 8 (l0i s r 0)=c8 s:=rfl
set_option maxHeartbeats 8000000 in
theorem j0v (s:H8)(b:List UInt8)(hb:b.length=64):Sp Tryz.prog 194 [.agg (c8 s),roB b] [] (Is (.agg (c8 (k0z s b)))):=by
 refine yH Tryz.func194 _ Tryz.ntmps194 (fun w0 R0=> ?_)
 refine zC (zq ?_)
 refine z9 ?_
 intro B1
 refine zd ?_
 intro B2
 refine zH (zn (zC (zq ?_)))
 refine vO (xD rfl Tryz.func204 rfl rfl rfl i0w) ?_
 refine zd ?_
 intro B3
 refine xE 0 (zH (zn (zC (zq ?_))))
 refine zd ?_
 intro B4
 refine zH (zn (zC (zC (zq ?_))))
 refine zb (zH (zn (xb ?_)))
 have hsp: ∀xs:List AV,xs.length=80→a0e xs 0 kkA=kkA:=fun xs h=>f0k (by rw[h,s0k])
 rw[hsp _ rfl]
 refine zh [(1,_),(2,_),(4,_),(5,_),(6,_)] (fun nn E H=> ∃(t:Nat),(t≤64)∧nn=64-t∧E= [(18,.val (.int .i64 (t:Int)))]∧H= [.blk B4 228 64 (o0j b t),.blk B3 226 80 kkA,.blk B2 207 8 [.val (e32 0),.val (e32 0),.val (e32 0),.val (e32 0),.val (e32 0),.val (e32 0),.val (e32 0),.val (e32 0)],.blk B1 207 8 (c8 s)]) _ (⟨0,by omega,rfl,rfl,rfl⟩) ?_
 rintro nn E H ⟨t,ht,rfl,rfl,rfl⟩
 dsimp only[cA,cN]
 refine zC (zq ?_)
 refine zR (zH (zn (zC ?_)))
 refine ym (fun hlt=> ?_) (fun hlt=> ?_)<;>(try simp only[vU]at hlt)
 ·refine yU (zn (zC (xb (zC (zq ?_)))))
  refine zb ?_
  refine zc (zH (zn (zC (zC (zq ?_)))))
  refine zb ?_
  refine zR (zH (zn ?_))
  refine ym (fun h16=> ?_) (fun h16=> ?_)<;>(try simp only[vU]at h16)
  ·have hwv:k0K b t=if t<16 then k0K b t else l0h (wTo b t) t:=(if_pos (by omega)).symm
   refine zC ?_
   refine yo 35 ?_
   simp only[cT,cZ,cD,cO]
   refine zE ?_
   refine zE ?_
   refine zE ?_
   refine xi ?_
   refine xd ?_
   refine vP (O.loadR rfl rfl (by exact b0a (k:=4*t) (by omega) (by omega))) ?_
   refine vP (O.conv rfl rfl d0R) ?_
   refine vP (O.shl rfl rfl rfl (by omega) (j0L (n:=24) rfl (by decide))) ?_
   refine zE ?_
   refine zE ?_
   refine xi ?_
   refine xa ?_
   refine xd ?_
   refine vP (O.loadR rfl rfl (by exact b0a (k:=4*t+1) (by omega) (by omega))) ?_
   refine vP (O.conv rfl rfl d0R) ?_
   refine vP (O.shl rfl rfl rfl (by omega) (j0L (n:=16) rfl (by decide))) ?_
   refine vP (O.or_ rfl rfl rfl u0z) ?_
   refine zE ?_
   refine zE ?_
   refine xi ?_
   refine xa ?_
   refine xd ?_
   refine vP (O.loadR rfl rfl (by exact b0a (k:=4*t+2) (by omega) (by omega))) ?_
   refine vP (O.conv rfl rfl d0R) ?_
   refine vP (O.shl rfl rfl rfl (by omega) (j0L (n:=8) rfl (by decide))) ?_
   refine vP (O.or_ rfl rfl rfl u0z) ?_
   refine zE ?_
   refine zE ?_
   refine xi ?_
   refine xa ?_
   refine xd ?_
   refine vP (O.loadR rfl rfl (by exact b0a (k:=4*t+3) (by omega) (by omega))) ?_
   refine vP (O.conv rfl rfl d0R) ?_
   refine vP (O.or_ rfl rfl rfl u0z) ?_
   refine yO ?_
   refine vf ?_
   simp only[a0g,cN,cA,cP]
   refine AO.store (i:=0) rfl rfl rfl rfl rfl rfl (by rfl) (by rfl) (Nat.ble_eq_true_of_le (by rw[g0R];omega)) (by exact j0E b (by omega) hwv (by omega)) (by(dsimp only[List.set,List.append,cA,cN,AV.cells,a0e,List.take,List.drop,Nat.reduceAdd];done)) (zH (zn ?_))
   refine wm ?_
   refine xY ?_
   refine xq (zn (zq ?_))
   refine zx ?_
   refine zb (zH ?_)
   refine zr _ _ _ (by omega) (⟨t+1,by omega,rfl,rfl,rfl⟩)
  have hwv:l0h (wTo b t) t=if t<16 then k0K b t else l0h (wTo b t) t:=(if_neg (by omega)).symm
  refine yU (zn (zC ?_))
  refine yo 10 ?_
  simp only[cT,cZ,cD,cO]
  refine zE ?_
  refine xQ ?_
  refine yO ?_
  refine vP (O.load rfl rfl (by repeat(exact List.Mem.head _)) (by exact d0B b t (k:=t-15) (by omega) (by omega))) ?_
  refine zE ?_
  refine xQ ?_
  refine yO ?_
  refine vP (O.load rfl rfl (by repeat(exact List.Mem.head _)) (by exact d0B b t (k:=t-2) (by omega) (by omega))) ?_
  refine vq ?_
  refine vq ?_
  refine vf ?_
  simp only[a0g,cN,cA,cP]
  refine zH (zn ?_)
  refine yo 29 ?_
  simp only[cT,cZ,cD,cO]
  refine zE ?_
  refine zE ?_
  refine vP (xD rfl Tryz.func205 rfl rfl rfl (d0s _ 17 ⟨by decide,by decide⟩)) ?_
  refine zE ?_
  refine vP (xD rfl Tryz.func205 rfl rfl rfl (d0s _ 19 ⟨by decide,by decide⟩)) ?_
  refine vH ?_
  refine zE ?_
  refine vP (O.shr rfl rfl rfl (by omega) (g0r (n:=10) rfl (by decide))) ?_
  refine vH ?_
  refine zE ?_
  refine xQ ?_
  refine yO ?_
  refine vP (O.load rfl rfl (by repeat(exact List.Mem.head _)) (by exact d0B b t (k:=t-7) (by omega) (by omega))) ?_
  refine vP (O.add rfl rfl rfl f0X) ?_
  refine zE ?_
  refine vP (xD rfl Tryz.func205 rfl rfl rfl (d0s _ 7 ⟨by decide,by decide⟩)) ?_
  refine zE ?_
  refine vP (xD rfl Tryz.func205 rfl rfl rfl (d0s _ 18 ⟨by decide,by decide⟩)) ?_
  refine vH ?_
  refine zE ?_
  refine vP (O.shr rfl rfl rfl (by omega) (g0r (n:=3) rfl (by decide))) ?_
  refine vH ?_
  refine vP (O.add rfl rfl rfl f0X) ?_
  refine zE ?_
  refine xQ ?_
  refine yO ?_
  refine vP (O.load rfl rfl (by repeat(exact List.Mem.head _)) (by exact d0B b t (k:=t-16) (by omega) (by omega))) ?_
  refine vP (O.add rfl rfl rfl f0X) ?_
  refine yO ?_
  refine vf ?_
  simp only[a0g,cN,cA,cP]
  refine AO.store (i:=0) rfl rfl rfl rfl rfl rfl (by rfl) (by rfl) (Nat.ble_eq_true_of_le (by rw[g0R];omega)) (by exact j0E b (by omega) hwv (by omega)) (by(dsimp only[List.set,List.append,cA,cN,AV.cells,a0e,List.take,List.drop,Nat.reduceAdd];done)) (zH (xA (zn (zq ?_))))
  refine zx ?_
  refine zb (zH ?_)
  refine zr _ _ _ (by omega) (⟨t+1,by omega,rfl,rfl,rfl⟩)
 obtain rfl:t=64:=by omega
 refine wm ?_
 refine xY ?_
 refine wa ?_
 refine xq (zn (zC (zq ?_)))
 refine vO (O.loadK rfl rfl mM (by(dsimp only[List.set,List.append,cA,cN,AV.cells,a0e,List.take,List.drop,Nat.reduceAdd];done)) (by rfl)) ?_
 refine zd ?_
 intro B5
 refine xE 0 (zH (zn (zC (zC (zq ?_)))))
 refine zb (zH (zn (xb ?_)))
 refine zh [(2,_),(4,_),(5,_),(6,_),(10,_)] (fun nn E H=> ∃(t:Nat),(t≤64)∧nn=64-t∧E= [(97,.val (.int .i64 (t:Int)))]∧H= [.blk B5 207 8 (c8 (r0w (wTo b 64) s t)),.blk B4 228 64 (o0j b 64),.blk B3 226 80 kkA,.blk B2 207 8 [.val (e32 0),.val (e32 0),.val (e32 0),.val (e32 0),.val (e32 0),.val (e32 0),.val (e32 0),.val (e32 0)],.blk B1 207 8 (c8 s)]) _ (⟨0,by omega,rfl,rfl,rfl⟩) ?_
 rintro nn E H ⟨t,ht,rfl,rfl,rfl⟩
 dsimp only[cA,cN]
 refine zC (zq ?_)
 refine zR (zH (zn (zC ?_)))
 refine ym (fun hlt=> ?_) (fun hlt=> ?_)<;>(try simp only[vU]at hlt)
 ·have hkt:=v0m (t:=t) (by omega)
  have hrd:=m0s (wTo b 64) s t
  have hk1: ∀j,j=t→kkA[j]? =some (.val (e64 (kk512.getD t 0))):=fun j hj=>s0l (by omega) hj
  have hw1: ∀j,j=t→(o0j b 64)[j]? =some (.val (e32 ((wTo b 64).getD t 0))):=fun j hj=>d0B b 64 (by omega) hj
  have hwl:=g0R b 64
  generalize(wTo b 64).getD t 0=wt at*
  generalize r0w (wTo b 64) s t=q at*
  generalize o0j b 64=WA at*
  generalize kkA=KA at*
  generalize kk512.getD t 0=kt at*
  generalize k256.getD t 0=kc at*
  refine yU (zn (zC (xb (zC (zq ?_)))))
  refine zb ?_
  refine zc (zH (zn (zC ?_)))
  refine yo 6 ?_
  simp only[cT,cZ,cD,cO]
  refine yO ?_
  refine yM ?_
  refine yO ?_
  refine yM ?_
  refine vq ?_
  refine vq ?_
  refine vf ?_
  simp only[a0g,cN,cA,cP]
  refine zH (zn (zC ?_))
  refine yo 33 ?_
  simp only[cT,cZ,cD,cO]
  refine yO ?_
  refine yM ?_
  refine zE ?_
  refine vP (xD rfl Tryz.func205 rfl rfl rfl (d0s _ 6 ⟨by decide,by decide⟩)) ?_
  refine zE ?_
  refine vP (xD rfl Tryz.func205 rfl rfl rfl (d0s _ 11 ⟨by decide,by decide⟩)) ?_
  refine vH ?_
  refine zE ?_
  refine vP (xD rfl Tryz.func205 rfl rfl rfl (d0s _ 25 ⟨by decide,by decide⟩)) ?_
  refine vH ?_
  refine vP (O.add rfl rfl rfl f0X) ?_
  refine zE ?_
  refine yO ?_
  refine yM ?_
  refine vP (O.and_ rfl rfl rfl o0a) ?_
  refine zE ?_
  refine vP (O.com32 rfl rfl) ?_
  refine yO ?_
  refine yM ?_
  refine vP (O.and_ rfl rfl rfl o0a) ?_
  refine vH ?_
  refine vP (O.add rfl rfl rfl f0X) ?_
  refine zE ?_
  refine yO ?_
  refine vP (O.load rfl rfl mM (by exact hk1 _ (by omega))) ?_
  refine vP (wB 32 4294967296) ?_
  refine vP (O.conv rfl rfl hkt) ?_
  refine vP (O.add rfl rfl rfl f0X) ?_
  refine zE ?_
  refine yO ?_
  refine vP (O.load rfl rfl mM (by exact hw1 _ (by omega))) ?_
  refine vP (O.add rfl rfl rfl f0X) ?_
  refine vq ?_
  refine vf ?_
  simp only[a0g,cN,cA,cP]
  refine zH (zn (zC ?_))
  refine yo 25 ?_
  simp only[cT,cZ,cD,cO]
  refine zE ?_
  refine vP (xD rfl Tryz.func205 rfl rfl rfl (d0s _ 2 ⟨by decide,by decide⟩)) ?_
  refine zE ?_
  refine vP (xD rfl Tryz.func205 rfl rfl rfl (d0s _ 13 ⟨by decide,by decide⟩)) ?_
  refine vH ?_
  refine zE ?_
  refine vP (xD rfl Tryz.func205 rfl rfl rfl (d0s _ 22 ⟨by decide,by decide⟩)) ?_
  refine vH ?_
  refine zE ?_
  refine yO ?_
  refine yM ?_
  refine vP (O.and_ rfl rfl rfl o0a) ?_
  refine zE ?_
  refine yO ?_
  refine yM ?_
  refine vP (O.and_ rfl rfl rfl o0a) ?_
  refine vH ?_
  refine yO ?_
  refine yM ?_
  refine yO ?_
  refine yM ?_
  refine vP (O.and_ rfl rfl rfl o0a) ?_
  refine vH ?_
  refine vP (O.add rfl rfl rfl f0X) ?_
  refine vq ?_
  refine vf ?_
  simp only[a0g,cN,cA,cP]
  refine zH (zn (zq ?_))
  refine zb ?_
  refine zb ?_
  refine vO (O.add rfl rfl rfl f0X) ?_
  refine zb ?_
  refine wR ?_
  refine zA ?_
  refine wR ?_
  refine zA ?_
  refine wR ?_
  refine zA ?_
  refine zb ?_
  refine vO (O.add rfl rfl rfl f0X) ?_
  refine zb ?_
  refine wR ?_
  refine zA ?_
  refine wR ?_
  refine zA ?_
  refine zM ?_
  refine xE 0 (zH (xA (zn (zq ?_))))
  refine zx ?_
  refine zb (zH ?_)
  refine zr _ _ _ (by omega) (⟨t+1,by omega,rfl,rfl,by rw[hrd]⟩)
 obtain rfl:t=64:=by omega
 generalize hr:r0w (wTo b 64) s 64=r at*
 have hbr:k0z s b=v0x s r:=by rw[←hr];rfl
 generalize o0j b 64=WA at*
 generalize kkA=KA at*
 rw[←n0i s r]
 refine wm ?_
 refine xY ?_
 refine wa ?_
 refine xq (zn (zC (zC (zq ?_))))
 refine zb (zH (zn (xb ?_)))
 refine zh [(2,_),(4,_),(10,_)] (fun nn E H=> ∃(i:Nat),(i≤8)∧nn=8-i∧E= [(179,.val (.int .i64 (i:Int)))]∧H= [.blk B5 207 8 (c8 r),.blk B4 228 64 WA,.blk B3 226 80 KA,.blk B2 207 8 [.val (e32 0),.val (e32 0),.val (e32 0),.val (e32 0),.val (e32 0),.val (e32 0),.val (e32 0),.val (e32 0)],.blk B1 207 8 (arK e32 8 (l0i s r i))]) _ (⟨0,by omega,rfl,rfl,rfl⟩) ?_
 rintro nn E H ⟨i,hi,rfl,rfl,rfl⟩
 dsimp only[cA,cN]
 refine zC (zq ?_)
 refine zR (zH (zn (zC ?_)))
 refine ym (fun hlt=> ?_) (fun hlt=> ?_)<;>(try simp only[vU]at hlt)
 ·have hg1: ∀j,j=i→(arK e32 8 (l0i s r i))[j]? =some (.val (e32 (l0i s r i i))):=fun j hj=>n0Y (by omega) hj
  have hg2: ∀j,j=i→(c8 r)[j]? =some (.val (e32 (h8 r i))):=fun j hj=>q0I r (by omega) hj
  have hs1: ∀j,j=i→a0e (arK e32 8 (l0i s r i)) j [.val (e32 (l0i s r i i+h8 r i))]=arK e32 8 (l0i s r (i+1)):=fun j hj=>by
   rw[j0w (by omega:i<8) _ hj]
   exact f0T fun q _=>p0l s r i q
  have hln:(arK e32 8 (l0i s r i)).length=8:=j0x _ _
  refine yU (zn (zC (xb (zC (zq ?_)))))
  refine zb ?_
  refine zc (zH (zn ?_))
  refine yo 8 ?_
  simp only[cT,cZ,cD,cO]
  refine zE ?_
  refine yO ?_
  refine vP (O.load rfl rfl mM (by exact hg1 _ (by omega))) ?_
  refine zE ?_
  refine yO ?_
  refine vP (O.load rfl rfl (by repeat(exact List.Mem.head _)) (by exact hg2 _ (by omega))) ?_
  refine vP (O.add rfl rfl rfl f0X) ?_
  refine yO ?_
  refine vf ?_
  simp only[a0g,cN,cA,cP]
  refine AO.store (i:=4) rfl rfl rfl rfl rfl rfl (by rfl) (by rfl) (by exact Nat.ble_eq_true_of_le (by rw[hln];omega)) (by exact hs1 _ (by omega)) (by(dsimp only[List.set,List.append,cA,cN,AV.cells,a0e,List.take,List.drop,Nat.reduceAdd];done)) (zH (xA (zn (zq ?_))))
  refine zx ?_
  refine zb (zH ?_)
  refine zr _ _ _ (by omega) (⟨i+1,by omega,rfl,rfl,rfl⟩)
 obtain rfl:i=8:=by omega
 rw[p0m]
 refine wm ?_
 refine xY ?_
 refine wa ?_
 refine xq (zn (zC (zq ?_)))
 refine vO (O.loadK rfl rfl mM (by(dsimp only[List.set,List.append,cA,cN,AV.cells,a0e,List.take,List.drop,Nat.reduceAdd];done)) (by rfl)) ?_
 refine xE 3 (zH (zn (y3 ?_)))
 refine AQ.retCell rfl rfl mM (by rfl) rfl nS (⟨congrArg (fun x=>AV.agg (c8 x)) hbr.symm,rfl⟩)
end Go.Proofs.YtojomcdjcpmnkaaGreat.By
namespace Go.Proofs.YtojomcdjcpmnkaaGreat.A
open Go.RowKit L
section
variable {Γ:Cx}{P:Program}{E:Env}{H:List HE}{N:Nat}{o:Oper}
theorem RelV.plain {R R':Nat→Prop}{W W':World}{x:AV}{u:Value}(hx: ∃c,x= .val c)(h:RelV R W x u):RelV R' W' x u:=by
 obtain⟨c,rfl⟩:=hx
 rw[h.val_inv];exact .val _
theorem RelV.plainT {R R':Nat→Prop}{W W':World}{xs:List AV}{u:Value}(hx: ∀x∈xs,∃c,x=AV.val c)(h:RelV R W (.tup xs) u):RelV R' W' (.tup xs) u:=by
 cases h with
 |tup _ cs hs hc=>exact .tup xs cs hs fun j hj=>(hc j hj).plain (hx _ (List.getElem_mem hj))
theorem HE.plainRow {R R':Nat→Prop}{W:World}{v:Value}{T sz n:Nat}{xs:List AV}(hx: ∀x∈xs,∃c,x=AV.val c)(h:HE.ok R W (.row v T sz n xs)):HE.ok R' W (.row v T sz n xs):=by
 obtain⟨us,ho,hl,hr⟩:=h
 exact⟨us,ho,hl,fun j hj=>(hr j hj).plain (hx _ (List.getElem_mem hj))⟩
theorem j0F (n:Nat)(f:Nat→UInt8): ∀x∈arB n f,∃c,x=AV.val c:=fun x hx=>by
 rw[c0D]at hx
 obtain⟨q,_,rfl⟩:=List.mem_map.1 hx
 exact⟨_,rfl⟩
def o0h (Post:AV→List HE→Prop):Prop:= ∀r Hn,Post r Hn→(∀(R R':Nat→Prop) W u,RelV R W r u→RelV R' W r u)∧ ∀e∈Hn,∀(R R':Nat→Prop) W,HE.ok R W e→HE.ok R' W e
theorem O.callLP {f:FuncId}{xs:List Operand}{ats:Array TypeId}{args args':List AV}{v:Value}{T sz n:Nat}{rs:List AV}{fn:Func}{Post:AV→List HE→Prop}(ho:o.op= .call {callee:= .value (.func f),args:=xs.toArray,argTypes:=ats})(hfn:P.funcs[f]? =some fn)(hn:(fn.name== "runtime.NumGoroutine")=false)(hb:fn.body.isNone=false)
  (hx:evs E xs=some args) (hm:HE.row v T sz n rs∈H) (h:Sp P f args' [] Post) (hp:o0h Post) (hl:LendL v (.ro false n rs) args args'):OpW P N o E H Post:=fun R a W h0 h2 h3 ha=>by
 have hR: ∀b,R b→R b∨(HE.row v T sz n rs).foot b:=fun _ h=> .inl h
 have hlt: ∀b,R b∨(HE.row v T sz n rs).foot b→b<W.heap.size:=by
  rintro b (hb|hb)
  ·exact h0 b hb
  ·exact HE.ok_lt (h2 _ hm) hb
 unfold Oper.wp
 rw[b0S ho hfn hn hb,List.map_toArray]
 have hc:=h W _ (xs.map a.eval) hlt (fun e he=>by cases he) .nil (hl.rel hR (j0S (h2 _ hm)) (ha.evs hx))
 refine Calls.mono hc ?_
 rintro e W' ⟨u,r,H',R',rfl,hpo,hs,hv⟩
 have p:=d0P hs hv hlt
 obtain⟨q1,q2⟩:=hp r H' hpo
 refine⟨u,r,H',R,rfl,hpo,p.ext,fun _ h=>h,fun _ h=> .inl h,q1 _ _ _ _ hv,fun e he=>⟨q2 e he _ _ _ (p.ok e he).1,fun b hb=> ?_⟩,p.disj⟩
 have:=(p.ok e he).2 b hb
 exact⟨this.1,fun hr=>by have:=h0 b hr;omega⟩
inductive LendX (H:List HE):List AV→List AV→Prop
 |nil:LendX H [] []
 |same {a:AV} {r r':List AV}:LendX H r r'→LendX H (a::r) (a::r')
 |row {v:Value} {T sz n:Nat} {rs r r':List AV} (i:Nat) (hi:H[i]? =some (.row v T sz n rs)):LendX H r r'→LendX H (.val v::r) (.ro false n rs::r')
 |agg {xs xs' r r':List AV}:LendX H xs xs'→LendX H r r'→LendX H (.agg xs::r) (.agg xs'::r')
theorem LendX.rel {R:Nat→Prop}{W:World}(hok: ∀e∈H,e.ok R W){a a':List AV}(h:LendX H a a'): ∀{us:List Value},RelL R W a us→RelL (fun b=>R b∨ ∃e∈H,e.foot b) W a' us:=by
 induction h with
 |nil=>intro us h;exact h.mono (fun _ h=> .inl h) (fun _ _=>rfl)
 |same _ ih=>
  intro us h
  obtain⟨u,r,rfl,h1,h2⟩:=h.uncons
  exact RelL.cons (h1.mono (fun _ h=> .inl h) (fun _ _=>rfl)) (ih h2)
 |row i hi _ ih=>
  intro us h
  obtain⟨u,r,rfl,h1,h2⟩:=h.uncons
  have:=h1.val_inv
  subst this
  have hm:=List.mem_of_getElem? hi
  exact RelL.cons ((j0S (hok _ hm)).mono (fun b hb=>hb.elim .inl fun hf=> .inr ⟨_,hm,hf⟩) (fun _ _=>rfl)) (ih h2)
 |agg _ _ ih1 ih2=>
  intro us h
  obtain⟨u,r,rfl,h1,h2⟩:=h.uncons
  obtain⟨vs,rfl,hv⟩:=h1.agg_inv
  exact RelL.cons (ih1 hv).toAgg (ih2 h2)
theorem AO.callMGw {Q:Exit→Act→World→Prop}{ops:Array Oper}{rest:List Oper}{f:FuncId}{d:Nat}{xs:List Operand}{ats:Array TypeId}{args:List AV}(i:Nat){e:HE}{Post:AV→List HE→Prop}{fn:Func}(ho:o.op= .call {callee:= .value (.func f),args:=xs.toArray,argTypes:=ats})(hw:a0f ops E o=some true)(hfn:P.funcs[f]? =some fn)(hn:(fn.name== "runtime.NumGoroutine")=false)(hb:fn.body.isNone=false)
  (hx:evs E xs=some args) (hd:o.dst=some d) (hN:Nat.ble (d+1) Γ.N=true) (hi:H[i]? =some e) (h:Sp P f args [e] Post) (next: ∀r H',Post r H'→AO Γ P ops Q rest ((d,r)::E) (H'++H.eraseIdx i)):AO Γ P ops Q (o::rest) E H:=fun R a W hs ha=>by
 have h1:=AO.callMG (o:={o with guard:=none}) i ho rfl hfn hn hb hx hd hN hi h next R a W hs ha
 unfold wpList at h1⊢
 rw[if_pos (f0h ha hw)]
 rw[if_pos (by unfold Region.wanted;rfl)]at h1
 exact h1
end
def GK (g:Nat)(vs:List Value)(W:World):Prop:= ∃cs T,W.heap[g]? =some (.cells cs T (0,0))∧cs.toList=vs
theorem GK.lt {g:Nat}{vs:List Value}{W:World}(h:GK g vs W):g<W.heap.size:=by
 obtain⟨cs,T,h,_⟩:=h
 exact(Array.getElem?_eq_some_iff.1 h).1
theorem GK.mods {g:Nat}{vs:List Value}{S:Nat→Prop}{W W':World}(h:GK g vs W)(hm:Mods S W W')(hS: ¬S g):GK g vs W':=by
 have hl:=h.lt
 obtain⟨cs,T,h1,h2⟩:=h
 exact⟨cs,T,by rw[hm.block g hl hS];exact h1,h2⟩
def SpK (K:World→Prop)(P:Program)(f:FuncId)(args:List AV)(H0:List HE)(Post:AV→List HE→Prop):Prop:=
 ∀(W:World) (R:Nat→Prop) (us:List Value),K W→(∀b,R b→b<W.heap.size)→(∀e∈H0,e.ok R W∧ ∀b,e.foot b→ ¬R b)→H0.Pairwise Disj→RelL R W args us→
  Calls P f us.toArray W fun e W'=> ∃u r H' R',e= .returned u∧Post r H'∧RelS ⟨W,a0z H0,R,0⟩ R' H' W'∧RelV R' W' r u
theorem SpK.of {K:World→Prop}{P:Program}{f:FuncId}{args:List AV}{H0:List HE}{Post:AV→List HE→Prop}(h:Sp P f args H0 Post):SpK K P f args H0 Post:=fun W R us _ h1 h2 h3 h4=>h W R us h1 h2 h3 h4
theorem SpK.coe {K:World→Prop}{P:Program}{f:FuncId}{args args':List AV}{H0:List HE}{Post:AV→List HE→Prop}(h:SpK K P f args' H0 Post)(hc:CoeL args args'):SpK K P f args H0 Post:=fun W R us hK h1 h2 h3 h4=>h W R us hK h1 h2 h3 (hc R W us h4)
theorem SpK.enter {K:World→Prop}{P:Program}{f:FuncId}{args:List AV}{H0:List HE}{Post:AV→List HE→Prop}{fn:Func}{c:Code}(hf:P.funcs[f]? =some fn)(hb:fn.body=some c)(n:Nat)(hn:fn.ntmps=n)(hl:Nat.ble args.length n=true)
  (h: ∀w0 R0,K w0→AW ⟨w0,a0z H0,R0,n⟩ P (FnQ ⟨w0,a0z H0,R0,n⟩ P fn Post) c (i0n 0 args) H0):SpK K P f args H0 Post:=fun W R us hK h1 h2 h3 h4=>by
 refine calls_of_wp hf hb (h W R hK R _ W ⟨Mods.refl _ _,h1,fun _ h=>h,fun _ h=> .inl h,fun e he=>(h2 e he).1,fun e he b hb=>⟨.inr ⟨e,he,hb⟩,(h2 e he).2 b hb⟩,h3⟩ ⟨rfl,?_,?_⟩)
 ·have:=lB hl
  have h5:=h4.1
  simp[hn];omega
 ·intro t v ht
  have key: ∀(args:List AV) (k:Nat),a0q (i0n k args) t=some v→k≤t∧args[t-k]? =some v:=by
   intro args
   induction args with
   |nil=>intro k h;cases h
   | cons x r ih=>
    intro k h
    rw[i0n]at h
    unfold a0q at h
    cases hb:Nat.beq k t with
    |true=>
     rw[hb]at h
     have:=Nat.eq_of_beq_eq_true hb
     subst this
     simp at h⊢;exact h
    |false=>
     rw[hb]at h
     obtain⟨h5,h6⟩:=ih (k+1) h
     have:k≠t:=fun e=>by subst e;simp at hb
     refine⟨by omega,?_⟩
     rw[show t-k=(t-(k+1))+1 by omega]
     simpa using h6
  obtain⟨_,h5⟩:=key args 0 ht
  obtain⟨u,h6,h7⟩:=h4.get (j:=t) (by simpa using h5)
  have ht':t<us.length:=(List.getElem?_eq_some_iff.1 h6).1
  have hu:us[t]=u:=(List.getElem?_eq_some_iff.1 h6).2
  have:Act.eval {tmps:=us.toArray++Array.replicate (fn.ntmps-us.toArray.size) undef,defers:= []} (.tmp t)=u:=by
   simp only[Act.eval,Array.getD]
   rw[dif_pos (by simp;omega)]
   simp[Array.getElem_append,ht',hu]
  rw[this];exact h7
section
variable {Γ:Cx}{P:Program}{Q:Exit→Act→World→Prop}{E:Env}{H:List HE}{N:Nat}{o:Oper}{ops:Array Oper}{rest:List Oper}
theorem O.index1 {T U:Nat}{x y:Operand}{n:Nat}{kk:IntKind}{z:Int}{xs:List AV}{v:AV}[hd:TyD P T (.array n U)][hg:TyG P U false 1](ho:o.op= .index T x y)(hx:ev E x=some (.agg xs))(hy:ev E y=some (.val (.int kk z)))(hz:0≤z∧z<n)(hv:xs[z.toNat]? =some v):
  OpW P N o E H (Is v):= .of_run fun R a W h1 h2 ha=>by
 obtain⟨d,inf,hd1,hi1,hk1,hg1⟩:=hg.ax
 obtain⟨us,hu,hr⟩:=(ha.ev hx).agg_inv
 obtain⟨u,h3,h4⟩:=hr.get hv
 refine⟨u,?_,h4⟩
 simp only[execOp,ho,hu,(ha.ev hy).val_inv,Instr.index,asIntOf,run_underlying hd.ax,Sem.run_bind,Sem.run_pure,Result.andThen_ok,sizeOf,typeInfo,run_program,hi1,hk1]
 rw[if_pos hz]
 cases d<;>first|(cases hg1;done)|(simp[part,isAgg,run_underlying hd1,sizeOf,typeInfo,hi1,hk1,h3])
end
end Go.Proofs.YtojomcdjcpmnkaaGreat.A
namespace Go.Proofs.YtojomcdjcpmnkaaGreat.By
open Go.RowKit L A
attribute [local irreducible] AW AQ AO
theorem b0q (l:List UInt8)(b:UInt8):a0a (l++[b])=a0a l++[.val (.int .u8 (b.toNat:Int))]:=by simp[a0a]
theorem k0e (n:Nat):UInt8.ofNat n=u8 (n:Int):=by
 unfold u8
 exact UInt8.toNat_inj.1 (by simp only[UInt8.toNat_ofNat'];omega)
theorem r0n {n m:Nat}{z:Int}(hz:z=(m:Int))(hm:m<64):((n:Int)).fdiv (2^ (min z.toNat IntKind.u64.bits))=((n/2^m:Nat):Int):=by
 subst hz
 have e:min ((m:Int)).toNat IntKind.u64.bits=m:=by
  show min m 64=m
  omega
 rw[e,Int.fdiv_eq_ediv_of_nonneg _ (by exact Int.le_of_lt (Int.pow_pos (by omega))),show(2:Int)^m=((2^m:Nat):Int) by rw[Int.natCast_pow];rfl,←Int.natCast_ediv]
theorem t0z (b:List UInt8)(hb:b.length≤1000000):Sp Tryz.prog 193 [roB b,.val (.int .i64 64)] [] (Is (roB (p0e b))):=by
 refine yH Tryz.func193 _ Tryz.ntmps193 (fun w0 R0=> ?_)
 refine zC (zq ?_)
 refine zc (zH (zn (zC (zq ?_))))
 refine zb ?_
 refine yA ?_
 intro V1 hV1
 refine zU ?_
 intro B2
 refine AO.g ?_
 refine yr 0 10 ?_
 refine wH 10 ?_
 refine AO.u ?_
 dsimp only[List.eraseIdx]
 refine yv 0 ?_
 intro V3 hV3
 refine zc (zH (zn (zC (xb ?_))))
 rw[show a0a b++[.val (.int .u8 128)]=a0a (b++[128])from(b0q b 128).symm,show b.length+1=(b++[128]).length by simp]
 refine zh [(0,_),(1,_)] (fun nn E H=> ∃(k:Nat) (V:Value) (l:List UInt8),(k≤h0Y b.length)∧(V.oneCell'=true)∧(l=b++[128]++List.replicate k 0)∧nn=h0Y b.length-k∧E= [(5,.val V)]∧H= [.row V 5 1 l.length (a0a l)]) _ (⟨0,_,b++[128],by omega,‹_›,by simp,rfl,rfl,rfl⟩) ?_
 rintro nn E H ⟨k,V,l,hk,hV,hl,rfl,rfl,rfl⟩
 dsimp only[cA,cN]
 have hll:l.length=b.length+1+k:=by rw[hl];simp;omega
 have hpz:=m0P b.length
 refine zC (zC (zq ?_))
 refine zb ?_
 refine wj ?_
 refine zb ?_
 refine ww ?_
 refine zb ?_
 refine zb ?_
 refine wQ ?_
 refine yG ?_
 refine y8 (zH (zn ?_))
 refine ym (fun h1=> ?_) (fun h1=> ?_)<;>(try simp only[vU]at h1)
 ·have hk2:k<h0Y b.length:=by
   by_cases g:k<h0Y b.length
   ·exact g
   exfalso
   have h3:=p0c b.length
   rw[show h0Y b.length=k by omega]at h3
   omega
  have hgu:a0a (l++[0])=a0a l++[.val (.int .u8 0)]:=b0q l 0
  have hgl:(l++[0]).length=l.length+1:=by simp
  refine yU (zn (xb (zq ?_)))
  refine zb ?_
  refine zU ?_
  intro B4
  refine AO.g ?_
  refine yr 0 22 ?_
  refine wH 22 ?_
  refine AO.u ?_
  dsimp only[List.eraseIdx]
  refine yv 0 ?_
  intro V5 hV5
  refine zc (zH (xA ?_))
  rw[show a0a l++_=_ from hgu.symm,←hgl]
  refine zr _ _ _ (by omega) (⟨k+1,_,l++[0],by omega,‹_›,by rw[hl,List.replicate_succ',List.append_assoc (b++[128])],rfl,rfl,rfl⟩)
 have hk2:k=h0Y b.length:=r0R hk (by omega)
 refine wm ?_
 refine xY ?_
 refine wa ?_
 refine xq (zn (zC (xb ?_)))
 refine zh [(0,_),(1,_)] (fun nn E H=> ∃(j:Nat) (V:Value),(j=0)∧(V.oneCell'=true)∧j=nn∧E= [(5,.val V)]∧H= [.row V 5 1 l.length (a0a l)]) _ (⟨0,V,rfl,hV,rfl,rfl,rfl⟩) ?_
 rintro nn E H ⟨j,V,hj,hV,rfl,rfl,rfl⟩
 dsimp only[cA,cN]
 refine zC (zC (zq ?_))
 refine zb ?_
 refine wj ?_
 refine zb ?_
 refine ww ?_
 refine zb ?_
 refine yG ?_
 refine vO (O.neq rfl rfl rfl (by exact bne_eq_false_iff_eq.2 (by omega))) (zH (zn ?_))
 refine ym (fun h2=> ?_) (fun h2=> ?_)<;>(try simp only[vU]at h2)
 ·exact absurd h2 (by simp)
 refine wm ?_
 refine xY ?_
 refine wa ?_
 refine xq (zn (zC (zq ?_)))
 refine zb ?_
 refine zZ ?_
 refine wd ?_
 refine vO (O.mul rfl rfl rfl (by exact o0n (by omega))) ?_
 refine zc (zH (zn (zC (zC (zq ?_)))))
 refine zc (zH (zn (xb ?_)))
 refine zh [(6,_)] (fun nn E H=> ∃(k2:Nat) (V:Value) (q:List UInt8),(k2≤8)∧(V.oneCell'=true)∧(q=l++l0m b.length k2)∧(q.length≤l.length+8)∧nn=8-k2∧E= [(5,.val V),(7,.val (.int .i64 (7-(k2:Int))))]∧H= [.row V 5 1 q.length (a0a q)]) _ (⟨0,V,l,by omega,hV,by simp[l0m],by omega,rfl,rfl,rfl⟩) ?_
 rintro nn E H ⟨k2,V,q,hk3,hV,hq,hql,rfl,rfl,rfl⟩
 dsimp only[cA,cN]
 refine zC (zC (zq ?_))
 refine zb ?_
 refine xR (zH (zn ?_))
 refine ym (fun h3=> ?_) (fun h3=> ?_)<;>(try simp only[vU]at h3)
 ·have hs:=l0l b.length (k:=k2) (by omega)
  rw[k0e]at hs
  have hbn:(b.length:Int)*8=((b.length*8:Nat):Int):=by omega
  rw[hbn]
  refine yU (zn (zC (xb (zq ?_))))
  refine zb ?_
  refine zb ?_
  refine zb ?_
  refine wd ?_
  refine vO (O.mul rfl rfl rfl (by exact o0n (by omega))) ?_
  refine vO (O.shr rfl rfl rfl (by omega) (r0n (m:=8*(7-k2)) (by omega) (by omega))) ?_
  refine y4 ?_
  refine zU ?_
  intro B6
  refine AO.g ?_
  refine yr 0 49 ?_
  refine wH 49 ?_
  refine AO.u ?_
  dsimp only[List.eraseIdx]
  refine yv 0 ?_
  intro V7 hV7
  refine zc (zH (xA (zn (zq ?_))))
  refine zb ?_
  refine yG ?_
  refine zc (zH ?_)
  have hgu:=b0q q (u8 ((b.length*8/2^ (8*(7-k2)):Nat):Int))
  have hgl:(q++[u8 ((b.length*8/2^ (8*(7-k2)):Nat):Int)]).length=q.length+1:=by simp
  rw[show a0a q++_=_ from hgu.symm,←hgl,show 7-(k2:Int)-1=7-((k2+1:Nat):Int) by omega]
  refine zr _ _ _ (by omega) (⟨k2+1,_,q++[u8 ((b.length*8/2^ (8*(7-k2)):Nat):Int)],by omega,‹_›,by rw[hq,hs,List.append_assoc],by(have:=congrArg List.length hq;rw[cH,l0m,List.length_take]at this;omega),rfl,rfl,rfl⟩)
 obtain rfl:k2=8:=by omega
 have hqp:q=p0e b:=by rw[hq,hl,hk2,n0l];rfl
 subst hqp
 refine wm ?_
 refine xY ?_
 refine wa ?_
 refine xq (zn (zC (zq ?_)))
 refine zb ?_
 refine zc (zH (zn (y3 ?_)))
 refine AQ.g ?_
 refine yj 0 [4] ?_
 refine AQ.u ?_
 try dsimp only[List.map,List.eraseIdx,cA,cN]
 refine yw
def hTo (k q:Nat):UInt32:=if q<k then h8 p0B q else 0
theorem p0A (k q:Nat):(if q=k then h8 p0B k else hTo k q)=hTo (k+1) q:=by
 unfold hTo
 by_cases h:q=k
 ·subst h;rw[if_pos rfl,if_pos (by omega)]
 rw[if_neg h]
 by_cases h2:q<k
 ·rw[if_pos h2,if_pos (by omega)]
 rw[if_neg h2,if_neg (by omega)]
theorem s0q:arK e32 8 (hTo 8)=c8 p0B:=rfl
theorem v0o {t:Nat}(h:t<8):IntKind.u32.wrap (((hh512.getD t 0).toNat:Int)/4294967296)=((h8 p0B t).toNat:Int):=by
 have key: ∀t,t<8→(hh512.getD t 0).toNat/4294967296=(h8 p0B t).toNat:=by decide +kernel
 have:=key t h
 have h2:=(h8 p0B t).toNat_lt
 rw[c0X]
 omega
theorem t0S {k:Nat}(h:k<8){j:Nat}(hj:j=k):(hh512.map fun a=>AV.val (e64 a))[j]? =some (.val (e64 (hh512.getD k 0))):=by
 subst hj
 have hl:hh512.length=8:=rfl
 simp[List.getD,show j<hh512.length by omega]
def e0H (s:H8)(k:Nat):List UInt8:=(List.range k).flatMap fun i=>w4 (h8 s i)
theorem g0B (s:H8)(k:Nat):e0H s (k+1)=e0H s k++w4 (h8 s k):=by
 unfold e0H
 rw[List.range_succ,List.flatMap_append];simp
theorem m0S (s:H8):e0H s 8=v0i s:=rfl
theorem d0M (s:H8): ∀k,(e0H s k).length=4*k
 |0=>rfl
 |k+1=>by rw[g0B,cH,d0M s k];show 4*k+4=_;omega
theorem q0j (b:List UInt8)(hb:b.length≤1000000):Sp Tryz.prog 176 [roB b] [] (Is (roB (sha b))):=by
 refine yH Tryz.func176 _ Tryz.ntmps176 (fun w0 R0=> ?_)
 refine zC (zq ?_)
 refine zc (zH (zn (zC (zq ?_))))
 refine zd ?_
 intro B1
 refine zH (zn (zC (zC (zq ?_))))
 refine vO (xD rfl Tryz.func192 rfl rfl rfl l0p) ?_
 refine zb (zH (zn (xb ?_)))
 refine zh [(0,_),(3,_),(11,_)] (fun nn E H=> ∃(k:Nat),(k≤8)∧nn=8-k∧E= [(12,.val (.int .i64 (k:Int)))]∧H= [.blk B1 207 8 (arK e32 8 (hTo k))]) _ (⟨0,by omega,rfl,rfl,rfl⟩) ?_
 rintro nn E H ⟨k,hk,rfl,rfl,rfl⟩
 dsimp only[cA,cN]
 refine zC (zq ?_)
 refine zR (zH (zn (zC ?_)))
 refine ym (fun hlt=> ?_) (fun hlt=> ?_)<;>(try simp only[vU]at hlt)
 ·have hg1: ∀j,j=k→(hh512.map fun a=>AV.val (e64 a))[j]? =some (.val (e64 (hh512.getD k 0))):=fun j hj=>t0S (by omega) hj
  have hs1: ∀j,j=k→a0e (arK e32 8 (hTo k)) j [.val (e32 (h8 p0B k))]=arK e32 8 (hTo (k+1)):=fun j hj=>by
   rw[j0w (by omega:k<8) _ hj]
   exact f0T fun q _=>p0A k q
  have hln:(arK e32 8 (hTo k)).length=8:=j0x _ _
  have hc:=v0o (t:=k) (by omega)
  generalize hh512.getD k 0=x at*
  generalize h8 p0B k=y at*
  refine yU (zn (zC (xb (zC (zq ?_)))))
  refine zb ?_
  refine vO (O.index1 rfl rfl rfl ⟨(by omega),(by omega)⟩ (by exact hg1 _ (by omega))) ?_
  refine zc ?_
  refine zc (zH (zn (zq ?_)))
  refine zb ?_
  refine zb ?_
  refine vO (wB 32 4294967296) ?_
  refine vO (O.conv rfl rfl hc) ?_
  refine wR ?_
  refine AO.store (i:=0) rfl rfl rfl rfl rfl rfl (by rfl) (by rfl) (by exact Nat.ble_eq_true_of_le (by rw[hln];omega)) (by exact hs1 _ (by omega)) (by(dsimp only[List.set,List.append,cA,cN,AV.cells,a0e,List.take,List.drop,Nat.reduceAdd];done)) (zH (xA (zn (zq ?_))))
  refine zx ?_
  refine zb (zH ?_)
  refine zr _ _ _ (by omega) (⟨k+1,by omega,rfl,rfl,rfl⟩)
 obtain rfl:k=8:=by omega
 rw[s0q]
 obtain⟨p,hp⟩: ∃p,p=p0e b:=⟨_,rfl⟩
 have hpm:p.length%64=0:=by rw[hp];exact p0d b
 have hpl:p.length≤2000000:=by
  have:=m0P b.length
  rw[hp,p0e]
  simp only[cH,List.length_replicate,List.length_singleton,show(t0L b.length).length=8 from rfl];omega
 obtain⟨m,hm⟩: ∃m,64*m=p.length:=⟨p.length/64,by omega⟩
 refine wm ?_
 refine xY ?_
 refine wa ?_
 refine xq (zn (zC (zq ?_)))
 refine zb ?_
 refine vO (xD rfl Tryz.func193 rfl rfl rfl (t0z b hb)) ?_
 refine zc (zH (zn (zC (zC (zq ?_)))))
 refine zc (zH (zn (xb ?_)))
 rw[←hp]
 refine zh [(3,_),(6,_)] (fun nn E H=> ∃(k:Nat),(k≤m)∧nn=m-k∧E= [(7,.val (.int .i64 ((64*k:Nat):Int)))]∧H= [.blk B1 207 8 (c8 (c0S p k))]) _ (⟨0,by omega,rfl,rfl,rfl⟩) ?_
 rintro nn E H ⟨k,hk,rfl,rfl,rfl⟩
 dsimp only[cA,cN]
 refine zC (zC (zq ?_))
 refine zb ?_
 refine zb ?_
 refine zZ ?_
 refine zR (zH (zn ?_))
 refine ym (fun hlt=> ?_) (fun hlt=> ?_)<;>(try simp only[vU]at hlt)
 ·obtain⟨bk,hbk⟩: ∃bk,bk=(p.drop (64*k)).take 64:=⟨_,rfl⟩
  have hbl:bk.length=64:=by rw[hbk,List.length_take,List.length_drop];omega
  have hpart:((a0a p).drop (64*k*1)).take (bk.length*1)=a0a bk:=by rw[f0P rfl rfl,hbl,hbk]
  have hst:c0S p (k+1)=k0z (c0S p k) bk:=by rw[hbk];rfl
  refine yU (zn (zC (xb ?_)))
  refine yo 7 ?_
  simp only[cT,cZ,cD,cO]
  refine vP (O.loadK rfl rfl (by repeat(exact List.Mem.head _)) (by(dsimp only[List.set,List.append,cA,cN,AV.cells,a0e,List.take,List.drop,Nat.reduceAdd];done)) (by rfl)) ?_
  refine zE ?_
  refine zE ?_
  refine zE ?_
  refine xa ?_
  refine vP (O.sliceLHm (m:=bk.length) rfl rfl rfl rfl (l:=64*k) (h:=64*k+64) (by omega) (by omega) (by omega) (by omega) (by omega) (by exact hpart)) ?_
  refine vP (xD rfl Tryz.func194 rfl rfl rfl (j0v (c0S p k) bk hbl)) ?_
  refine vf ?_
  simp only[a0g,cN,cA,cP]
  refine xE 0 (zH (xA (zn (zq ?_))))
  refine zb ?_
  refine zx ?_
  refine zc (zH ?_)
  rw[←hst,show((64*k:Nat):Int)+64=((64*(k+1):Nat):Int) by omega]
  refine zr _ _ _ (by omega) (⟨k+1,by omega,rfl,rfl,rfl⟩)
 obtain rfl:k=m:=by omega
 have hsh:=t0l b hp hm
 generalize c0S p k=hf at*
 refine wm ?_
 refine xY ?_
 refine wa ?_
 refine xq (zn (zC (zq ?_)))
 refine zc (zH (zn (zC (zC (zq ?_)))))
 refine vO (O.loadK rfl rfl (by repeat(exact List.Mem.head _)) (by(dsimp only[List.set,List.append,cA,cN,AV.cells,a0e,List.take,List.drop,Nat.reduceAdd];done)) (by rfl)) ?_
 refine zb (zH (zn (xb ?_)))
 refine AW.g ?_
 refine G.nilRow 5 1 ?_
 refine AW.u ?_
 refine zh [(37,_)] (fun nn E H=> ∃(i:Nat) (V:Value),(i≤8)∧(V.oneCell'=true)∧nn=8-i∧E= [(8,.val V),(38,.val (.int .i64 (i:Int)))]∧H= [.row V 5 1 (e0H hf i).length (a0a (e0H hf i))]) _ (⟨0,_,by omega,rfl,rfl,rfl,rfl⟩) ?_
 rintro nn E H ⟨i,V,hi,hV,rfl,rfl,rfl⟩
 dsimp only[cA,cN]
 have hol:=d0M hf i
 refine zC (zq ?_)
 refine zR (zH (zn (zC ?_)))
 refine ym (fun hlt2=> ?_) (fun hlt2=> ?_)<;>(try simp only[vU]at hlt2)
 ·have hg2: ∀j,j=i→(c8 hf)[j]? =some (.val (e32 (h8 hf i))):=fun j hj=>q0I hf (by omega) hj
  have hgu:a0a (e0H hf i)++[.val (.int .u8 (((h8 hf i)>>>UInt32.ofNat 24).toUInt8.toNat:Int)),.val (.int .u8 (((h8 hf i)>>>UInt32.ofNat 16).toUInt8.toNat:Int)),.val (.int .u8 (((h8 hf i)>>>UInt32.ofNat 8).toUInt8.toNat:Int)),.val (.int .u8 ((h8 hf i).toUInt8.toNat:Int))]=a0a (e0H hf (i+1)):=by
   rw[g0B];simp[a0a,w4]
  have hgl:(e0H hf (i+1)).length=(e0H hf i).length+4:=by rw[d0M,d0M];omega
  refine yU (zn (zC (xb (zC (zq ?_)))))
  refine vO (O.index1 rfl rfl rfl ⟨(by omega),(by omega)⟩ (by exact hg2 _ (by omega))) ?_
  refine zc (zH (zn (zq ?_)))
  refine zb ?_
  refine zb ?_
  refine vO (O.shr rfl rfl rfl (by omega) (g0r (n:=24) rfl (by decide))) ?_
  refine vO (O.conv rfl rfl d0S) ?_
  refine zb ?_
  refine vO (O.shr rfl rfl rfl (by omega) (g0r (n:=16) rfl (by decide))) ?_
  refine vO (O.conv rfl rfl d0S) ?_
  refine zb ?_
  refine vO (O.shr rfl rfl rfl (by omega) (g0r (n:=8) rfl (by decide))) ?_
  refine vO (O.conv rfl rfl d0S) ?_
  refine zb ?_
  refine vO (O.conv rfl rfl d0S) ?_
  refine xH ?_
  intro B2
  refine AO.g ?_
  refine yr 0 53 ?_
  refine wH 53 ?_
  refine AO.u ?_
  dsimp only[List.eraseIdx]
  refine AO.append' (i:=0) rfl rfl rfl rfl (by rfl) (by rfl) rfl rfl rfl (by exact SrcA.ro TyD.ax (by rfl) (lB rfl)) (by rfl) (by(unfold maxLen;omega)) (by omega) (by(dsimp only[List.set,List.append,cA,cN,AV.cells,a0e,List.take,List.drop,Nat.reduceAdd];done)) (fun _=>by(dsimp only[List.set];done)) ?_
  intro V3 hV3
  refine zc (zH (xA (zn (zq ?_))))
  refine zx ?_
  refine zb (zH ?_)
  rw[show a0a (e0H hf i)++_=_ from hgu,←hgl]
  refine zr _ _ _ (by omega) (⟨i+1,_,by omega,‹_›,rfl,rfl,rfl⟩)
 obtain rfl:i=8:=by omega
 rw[m0S,hsh]
 refine wm ?_
 refine xY ?_
 refine wa ?_
 refine xq (zn (zC (zq ?_)))
 refine zb ?_
 refine zc (zH (zn (y3 ?_)))
 refine AQ.g ?_
 refine yj 0 [2] ?_
 refine AQ.u ?_
 try dsimp only[List.map,List.eraseIdx,cA,cN]
 refine yw
theorem p0P (l:List UInt8)(hl:l.length≤1000000):Sp Tryz.prog 69 [roB l] [] (b0e 5 1 l.length (a0a l)):=by
 refine yH Tryz.func69 _ Tryz.ntmps69 (fun w0 R0=> ?_)
 refine zC (zq ?_)
 refine zc (zH (zn (zC (zq ?_))))
 refine zb ?_
 refine yA ?_
 intro V1 hV1
 refine zc (zH (zn (y3 ?_)))
 refine vm rfl rfl ⟨_,by repeat(first|exact List.Sublist.slnil|refine List.Sublist.cons_cons _ ?_),List.Perm.refl _⟩ (⟨_,rfl,‹_›,rfl⟩)
theorem l0x (l:List UInt8)(hl:l.length≤1000000):Sp Tryz.prog 108 [roB l] [] (b0e 5 1 l.length (a0a l)):=by
 refine yH Tryz.func108 _ Tryz.ntmps108 (fun w0 R0=> ?_)
 refine zC (zq ?_)
 refine zc (zH (zn (zC (zq ?_))))
 refine zb ?_
 refine yA ?_
 intro V1 hV1
 refine zc (zH (zn (y3 ?_)))
 refine vm rfl rfl ⟨_,by repeat(first|exact List.Sublist.slnil|refine List.Sublist.cons_cons _ ?_),List.Perm.refl _⟩ (⟨_,rfl,‹_›,rfl⟩)
theorem k0k (c id:List UInt8)(piv:Int)(q:Nat):(if q=0 then c.getD 0 0^^^u8 (id.length:Int)else c.getD q 0)=nF c id piv 0 0 q:=by
 unfold nF
 rw[if_neg (show ¬(13-0≤q∧q<13) by omega),if_neg (show ¬(8-id.length≤q∧q<8-id.length+0) by omega)]
 by_cases h:q=0
 ·subst h;simp
 simp[h]
theorem g0M {c:List UInt8}(h:c.length=13):a0a c=arB 13 (fun q=>c.getD q 0):=by
 rw[arB]
 congr 1
 apply List.ext_getElem
 ·rw[a0D,h]
 intro i h1 h2
 simp[fnB,h1]
theorem m0g {piv:Int}{i:Nat}{z:Int}(hz:z=8*(i:Int))(hi:i<5):piv.fdiv (2^ (min z.toNat IntKind.i64.bits))=piv/2^ (8*i):=by
 subst hz
 have e:min (8*(i:Int)).toNat IntKind.i64.bits=8*i:=by
  show min _ 64=_
  omega
 rw[e,Int.fdiv_eq_ediv_of_nonneg _ (by exact Int.le_of_lt (Int.pow_pos (by omega)))]
theorem k0i {c id:List UInt8}{piv:Int}(h:c.length≠13∨7<id.length):b0U c id piv=([],1):=if_pos h
theorem k0h {c id:List UInt8}{piv:Int}(h: ¬(c.length≠13∨7<id.length))(h2:piv<0∨1099511627775<piv):b0U c id piv=([],8):=(if_neg h).trans (if_pos h2)
theorem h0j {c id:List UInt8}{piv:Int}(h: ¬(c.length≠13∨7<id.length))(h2: ¬(piv<0∨1099511627775<piv)):b0U c id piv=(k0j c id piv,0):=(if_neg h).trans (if_neg h2)
abbrev s0R (r:List UInt8×Int):AV:= .tup [roB r.1,.val (.int .i64 r.2)]
theorem d0I (c id:List UInt8)(piv:Int)(hcl:c.length≤1000000):Sp Tryz.prog 66 [roB c,roB id,.val (.int .i64 piv)] [] (Is (s0R (b0U c id piv))):=by
 refine yH Tryz.func66 _ Tryz.ntmps66 (fun w0 R0=> ?_)
 refine zC (zq ?_)
 refine zc ?_
 refine zc (zH (zn (zC (zC (zq ?_)))))
 refine zb ?_
 refine zZ ?_
 refine y8 ?_
 refine zb ?_
 refine yl ?_
 refine yg 15 ?_
 refine yy 16 ?_
 refine zG (zH (zn ?_))
 refine ym (fun h1=> ?_) (fun h1=> ?_)<;>(try simp only[vU]at h1)
 ·rw[k0i (by omega)]
  refine zC (zq ?_)
  refine zc ?_
  refine zc (zH (zn (y3 (xh ?_))))
  refine x9 yP yu (⟨rfl,rfl⟩)
 have hc:c.length=13:=by omega
 have hid:id.length≤7:=by omega
 refine yU (zn (zC (zC (zq ?_))))
 refine zb ?_
 refine zR ?_
 refine zb ?_
 refine yl ?_
 refine yy 22 ?_
 refine zG (zH (zn ?_))
 refine ym (fun h2=> ?_) (fun h2=> ?_)<;>(try simp only[vU]at h2)
 ·rw[k0h (by omega) (by omega)]
  refine zC (zq ?_)
  refine zc ?_
  refine zc (zH (zn (y3 (xh ?_))))
  refine x9 yP yu (⟨rfl,rfl⟩)
 rw[h0j (by omega) (by omega)]
 have hb0:=g0M hc
 have hst0: ∀j,j=0→a0e (arB 13 (fun q=>c.getD q 0)) j [.val (.int .u8 (((c.getD 0 0)^^^u8 (id.length:Int)).toNat:Int))]=arB 13 (nF c id piv 0 0):=fun j hj=>by
  rw[a0K (by omega) _ hj]
  exact a0d fun q _=>k0k c id piv q
 have hge0: ∀j,j=0→(arB 13 (fun q=>c.getD q 0))[j]? =some (.val (.int .u8 (((c.getD 0 0)).toNat:Int))):=fun j hj=>a0p (by omega) hj
 have hal: ∀f,(arB 13 f).length=13:=fun f=>a0b _ _
 have hv0: ∀f q,q<13→(arB 13 f)[q]? =some (.val (.int .u8 ((f q).toNat:Int))):=fun f q hq=>a0p hq rfl
 refine yU (zn (zC (zq ?_)))
 refine zb ?_
 refine vS (xD rfl Tryz.func69 rfl rfl rfl (p0P _ (by omega))) ?_
 intro V1 hV1
 refine zc ?_
 rw[hb0,hc]
 refine AO.g ?_
 refine G.openRow 0 rfl (by omega) (fun b8 cap8 hc1 hc2 hxs hVe=> ?_)
 subst hVe
 dsimp only[List.set]
 refine AO.u (zH (zn (zC (zq ?_))))
 refine zb ?_
 refine vt ?_
 refine vO (O.load rfl rfl (by repeat(exact List.Mem.head _)) (by exact hge0 _ (by omega))) ?_
 refine zb ?_
 refine zZ ?_
 refine y4 ?_
 refine vE ?_
 refine vt ?_
 refine yF 0 rfl rfl rfl rfl rfl rfl (by rfl) (by rfl) (Nat.ble_eq_true_of_le (by rw[hal];omega)) (by exact hst0 _ (by omega)) (zH (zn (zC (zC (zq ?_)))))
 refine zb ?_
 refine zZ ?_
 refine zb (zH (zn (xb ?_)))
 refine zh [(1,_),(2,_),(8,_),(36,_)] (fun nn E H=> ∃(i:Nat),(i≤id.length)∧nn=id.length-i∧E= [(37,.val (.int .i64 (i:Int)))]∧H= [.blk b8 5 (cap8*1) (arB 13 (nF c id piv i 0))]) _ (⟨0,by omega,rfl,rfl,rfl⟩) ?_
 rintro nn E H ⟨i,hi,rfl,rfl,rfl⟩
 dsimp only[cA,cN]
 refine zC (zq ?_)
 refine zR (zH (zn (zC ?_)))
 refine ym (fun h3=> ?_) (fun h3=> ?_)<;>(try simp only[vU]at h3)
 ·have hil:i<id.length:=by omega
  have hge: ∀j,j=8-id.length+i→(arB 13 (nF c id piv i 0))[j]? =some (.val (.int .u8 ((nF c id piv i 0 (8-id.length+i)).toNat:Int))):=fun j hj=>a0p (by omega) hj
  have hst: ∀j,j=8-id.length+i→a0e (arB 13 (nF c id piv i 0)) j [.val (.int .u8 ((nF c id piv i 0 (8-id.length+i)^^^bt id i).toNat:Int))]=arB 13 (nF c id piv (i+1) 0):=fun j hj=>by
   rw[a0K (by omega) _ hj]
   exact a0d fun q _=>t0H hid hil q
  refine yU (zn (zC (xb (zC (zq ?_)))))
  refine zb ?_
  refine zc (zH (zn ?_))
  refine yo 14 ?_
  simp only[cT,cZ,cD,cO]
  refine zE ?_
  refine zE ?_
  refine vP (xX rfl rfl) ?_
  refine xQ ?_
  refine zE ?_
  refine xa ?_
  refine vd ?_
  refine vP (O.load rfl rfl (by repeat(exact List.Mem.head _)) (by exact hge _ (by omega))) ?_
  refine zE ?_
  refine zE ?_
  refine xd ?_
  refine vP (O.loadR rfl rfl (by exact b0a hil (by omega))) ?_
  refine wy ?_
  refine vd ?_
  refine vf ?_
  simp only[a0g,cN,cA,cP]
  refine yF 0 rfl rfl rfl rfl rfl rfl (by rfl) (by rfl) (Nat.ble_eq_true_of_le (by rw[hal];omega)) (by exact hst _ (by omega)) (zH (xA (zn (zq ?_))))
  refine zx ?_
  refine zb (zH ?_)
  refine zr _ _ _ (by omega) (⟨i+1,by omega,rfl,rfl,rfl⟩)
 obtain rfl:i=id.length:=by omega
 refine wm ?_
 refine xY ?_
 refine wa ?_
 refine xq (zn (zC (zC (zq ?_))))
 refine zc (zH (zn (xb ?_)))
 refine zh [(2,_),(8,_)] (fun nn E H=> ∃(i:Nat),(i≤5)∧nn=5-i∧E= [(10,.val (.int .i64 (i:Int)))]∧H= [.blk b8 5 (cap8*1) (arB 13 (nF c id piv id.length i))]) _ (⟨0,by omega,rfl,rfl,rfl⟩) ?_
 rintro nn E H ⟨i,hi,rfl,rfl,rfl⟩
 dsimp only[cA,cN]
 refine zC (zC (zq ?_))
 refine zb ?_
 refine zR (zH (zn ?_))
 refine ym (fun h4=> ?_) (fun h4=> ?_)<;>(try simp only[vU]at h4)
 ·have hge: ∀j,j=12-i→(arB 13 (nF c id piv id.length i))[j]? =some (.val (.int .u8 ((nF c id piv id.length i (12-i)).toNat:Int))):=fun j hj=>a0p (by omega) hj
  have hst: ∀j,j=12-i→a0e (arB 13 (nF c id piv id.length i)) j [.val (.int .u8 ((nF c id piv id.length i (12-i)^^^u8 (piv/2^ (8*i))).toNat:Int))]=arB 13 (nF c id piv id.length (i+1)):=fun j hj=>by
   rw[a0K (by omega) _ hj]
   exact a0d fun q _=>q0z (by omega) q
  refine yU (zn (zC (xb ?_)))
  refine yo 12 ?_
  simp only[cT,cZ,cD,cO]
  refine zE ?_
  refine zE ?_
  refine xQ ?_
  refine vd ?_
  refine vP (O.load rfl rfl (by repeat(exact List.Mem.head _)) (by exact hge _ (by omega))) ?_
  refine zE ?_
  refine zE ?_
  refine xi ?_
  refine vP (O.shr rfl rfl rfl (by omega) (m0g (by rfl) (by omega))) ?_
  refine vP (O.conv rfl rfl d0A) ?_
  refine wy ?_
  refine vd ?_
  refine vf ?_
  simp only[a0g,cN,cA,cP]
  refine yF 0 rfl rfl rfl rfl rfl rfl (by rfl) (by rfl) (Nat.ble_eq_true_of_le (by rw[hal];omega)) (by exact hst _ (by omega)) (zH (xA (zn (zq ?_))))
  refine zb ?_
  refine zx ?_
  refine zc (zH ?_)
  refine zr _ _ _ (by omega) (⟨i+1,by omega,rfl,rfl,rfl⟩)
 obtain rfl:i=5:=by omega
 refine wm ?_
 refine xY ?_
 refine wa ?_
 refine xq (zn (zC (zq ?_)))
 refine zb ?_
 refine zc ?_
 refine zc (zH (zn (y3 ?_)))
 refine AQ.g ?_
 refine G.closeRow (b:=b8) (sz:=1) (n:=13) (cap:=cap8) 0 rfl (hal _) rfl hc1 hc2 ?_
 refine AQ.u ?_
 dsimp only[List.set]
 refine AQ.g ?_
 refine yj 0 [6] ?_
 refine AQ.u ?_
 try dsimp only[List.map,List.eraseIdx,cA,cN]
 refine AQ.ret2 rfl rfl rfl nS (⟨by rw[s0R,k0j,b0D];rfl,rfl⟩)
theorem k0g (c id:List UInt8)(piv:Int)(hcl:c.length≤1000000):Sp Tryz.prog 59 [roB c,roB id,.val (.int .i64 piv)] [] (Is (s0R (b0U c id piv))):=by
 refine yH Tryz.func59 _ Tryz.ntmps59 (fun w0 R0=> ?_)
 refine zC (zq ?_)
 refine zc ?_
 refine zc (zH (zn (zC (zC (zq ?_)))))
 refine zb ?_
 refine zZ ?_
 refine y8 ?_
 refine zb ?_
 refine yl ?_
 refine yg 16 ?_
 refine yy 17 ?_
 refine zG (zH (zn ?_))
 refine ym (fun h1=> ?_) (fun h1=> ?_)<;>(try simp only[vU]at h1)
 ·rw[k0i (by omega)]
  refine zC (zq ?_)
  refine zc ?_
  refine zc (zH (zn (y3 (xh ?_))))
  refine x9 yP yu (⟨rfl,rfl⟩)
 have hc:c.length=13:=by omega
 have hid:id.length≤7:=by omega
 refine yU (zn (zC (zC (zq ?_))))
 refine zb ?_
 refine zR ?_
 refine zb ?_
 refine yl ?_
 refine yy 23 ?_
 refine zG (zH (zn ?_))
 refine ym (fun h2=> ?_) (fun h2=> ?_)<;>(try simp only[vU]at h2)
 ·rw[k0h (by omega) (by omega)]
  refine zC (zq ?_)
  refine zc ?_
  refine zc (zH (zn (y3 (xh ?_))))
  refine x9 yP yu (⟨rfl,rfl⟩)
 rw[h0j (by omega) (by omega)]
 have hb0:=g0M hc
 have hst0: ∀j,j=0→a0e (arB 13 (fun q=>c.getD q 0)) j [.val (.int .u8 (((c.getD 0 0)^^^u8 (id.length:Int)).toNat:Int))]=arB 13 (nF c id piv 0 0):=fun j hj=>by
  rw[a0K (by omega) _ hj]
  exact a0d fun q _=>k0k c id piv q
 have hge0: ∀j,j=0→(arB 13 (fun q=>c.getD q 0))[j]? =some (.val (.int .u8 (((c.getD 0 0)).toNat:Int))):=fun j hj=>a0p (by omega) hj
 have hal: ∀f,(arB 13 f).length=13:=fun f=>a0b _ _
 have hv0: ∀f q,q<13→(arB 13 f)[q]? =some (.val (.int .u8 ((f q).toNat:Int))):=fun f q hq=>a0p hq rfl
 refine yU (zn (zC (zq ?_)))
 refine zb ?_
 refine vS (xD rfl Tryz.func108 rfl rfl rfl (l0x _ (by omega))) ?_
 intro V1 hV1
 refine zc ?_
 rw[hb0,hc]
 refine AO.g ?_
 refine G.openRow 0 rfl (by omega) (fun b8 cap8 hc1 hc2 hxs hVe=> ?_)
 subst hVe
 dsimp only[List.set]
 refine AO.u (zH (zn (zC (zq ?_))))
 refine zb ?_
 refine vt ?_
 refine vO (O.load rfl rfl (by repeat(exact List.Mem.head _)) (by exact hge0 _ (by omega))) ?_
 refine zb ?_
 refine zZ ?_
 refine y4 ?_
 refine vE ?_
 refine vt ?_
 refine yF 0 rfl rfl rfl rfl rfl rfl (by rfl) (by rfl) (Nat.ble_eq_true_of_le (by rw[hal];omega)) (by exact hst0 _ (by omega)) (zH (zn (zC (zC (zq ?_)))))
 refine zb ?_
 refine zZ ?_
 refine zb (zH (zn (xb ?_)))
 refine zh [(1,_),(2,_),(8,_),(36,_),(37,_)] (fun nn E H=> ∃(i:Nat),(i≤id.length)∧nn=id.length-i∧E= [(38,.val (.int .i64 (i:Int)))]∧H= [.blk b8 5 (cap8*1) (arB 13 (nF c id piv i 0))]) _ (⟨0,by omega,rfl,rfl,rfl⟩) ?_
 rintro nn E H ⟨i,hi,rfl,rfl,rfl⟩
 dsimp only[cA,cN]
 refine zC (zq ?_)
 refine zR (zH (zn (zC ?_)))
 refine ym (fun h3=> ?_) (fun h3=> ?_)<;>(try simp only[vU]at h3)
 ·have hil:i<id.length:=by omega
  have hge: ∀j,j=8-id.length+i→(arB 13 (nF c id piv i 0))[j]? =some (.val (.int .u8 ((nF c id piv i 0 (8-id.length+i)).toNat:Int))):=fun j hj=>a0p (by omega) hj
  have hst: ∀j,j=8-id.length+i→a0e (arB 13 (nF c id piv i 0)) j [.val (.int .u8 ((nF c id piv i 0 (8-id.length+i)^^^bt id i).toNat:Int))]=arB 13 (nF c id piv (i+1) 0):=fun j hj=>by
   rw[a0K (by omega) _ hj]
   exact a0d fun q _=>t0H hid hil q
  refine yU (zn (zC (xb (zC (zq ?_)))))
  refine zb ?_
  refine yf ?_
  refine vO (O.loadR rfl rfl (by exact b0a hil (by omega))) ?_
  refine zc ?_
  refine zc (zH (zn (zq ?_)))
  refine zb ?_
  refine zb ?_
  refine zZ ?_
  refine yG ?_
  refine zb ?_
  refine zx ?_
  refine vt ?_
  refine vO (O.load rfl rfl (by repeat(exact List.Mem.head _)) (by exact hge _ (by omega))) ?_
  refine zb ?_
  refine vE ?_
  refine vt ?_
  refine yF 0 rfl rfl rfl rfl rfl rfl (by rfl) (by rfl) (Nat.ble_eq_true_of_le (by rw[hal];omega)) (by exact hst _ (by omega)) (zH (xA (zn (zq ?_))))
  refine zx ?_
  refine zb (zH ?_)
  refine zr _ _ _ (by omega) (⟨i+1,by omega,rfl,rfl,rfl⟩)
 obtain rfl:i=id.length:=by omega
 refine wm ?_
 refine xY ?_
 refine wa ?_
 refine xq (zn (zC (zC (zq ?_))))
 refine zc (zH (zn (xb ?_)))
 refine zh [(2,_),(8,_)] (fun nn E H=> ∃(i:Nat),(i≤5)∧nn=5-i∧E= [(11,.val (.int .i64 (i:Int)))]∧H= [.blk b8 5 (cap8*1) (arB 13 (nF c id piv id.length i))]) _ (⟨0,by omega,rfl,rfl,rfl⟩) ?_
 rintro nn E H ⟨i,hi,rfl,rfl,rfl⟩
 dsimp only[cA,cN]
 refine zC (zC (zq ?_))
 refine zb ?_
 refine zR (zH (zn ?_))
 refine ym (fun h4=> ?_) (fun h4=> ?_)<;>(try simp only[vU]at h4)
 ·have hge: ∀j,j=12-i→(arB 13 (nF c id piv id.length i))[j]? =some (.val (.int .u8 ((nF c id piv id.length i (12-i)).toNat:Int))):=fun j hj=>a0p (by omega) hj
  have hst: ∀j,j=12-i→a0e (arB 13 (nF c id piv id.length i)) j [.val (.int .u8 ((nF c id piv id.length i (12-i)^^^u8 (piv/2^ (8*i))).toNat:Int))]=arB 13 (nF c id piv id.length (i+1)):=fun j hj=>by
   rw[a0K (by omega) _ hj]
   exact a0d fun q _=>q0z (by omega) q
  refine yU (zn (zC (xb ?_)))
  refine yo 12 ?_
  simp only[cT,cZ,cD,cO]
  refine zE ?_
  refine zE ?_
  refine xQ ?_
  refine vd ?_
  refine vP (O.load rfl rfl (by repeat(exact List.Mem.head _)) (by exact hge _ (by omega))) ?_
  refine zE ?_
  refine zE ?_
  refine xi ?_
  refine vP (O.shr rfl rfl rfl (by omega) (m0g (by rfl) (by omega))) ?_
  refine vP (O.conv rfl rfl d0A) ?_
  refine wy ?_
  refine vd ?_
  refine vf ?_
  simp only[a0g,cN,cA,cP]
  refine yF 0 rfl rfl rfl rfl rfl rfl (by rfl) (by rfl) (Nat.ble_eq_true_of_le (by rw[hal];omega)) (by exact hst _ (by omega)) (zH (xA (zn (zq ?_))))
  refine zb ?_
  refine zx ?_
  refine zc (zH ?_)
  refine zr _ _ _ (by omega) (⟨i+1,by omega,rfl,rfl,rfl⟩)
 obtain rfl:i=5:=by omega
 refine wm ?_
 refine xY ?_
 refine wa ?_
 refine xq (zn (zC (zq ?_)))
 refine zb ?_
 refine zc ?_
 refine zc (zH (zn (y3 ?_)))
 refine AQ.g ?_
 refine G.closeRow (b:=b8) (sz:=1) (n:=13) (cap:=cap8) 0 rfl (hal _) rfl hc1 hc2 ?_
 refine AQ.u ?_
 dsimp only[List.set]
 refine AQ.g ?_
 refine yj 0 [6] ?_
 refine AQ.u ?_
 try dsimp only[List.map,List.eraseIdx,cA,cN]
 refine AQ.ret2 rfl rfl rfl nS (⟨by rw[s0R,k0j,b0D];rfl,rfl⟩)
def ext (n:Int):Int×List UInt8:=if n<13 then(n,[])else if n<269 then(13,[u8 (n-13)])else(14,[u8 ((n-269)/256),u8 (n-269)])
theorem c0d (n:Int)(h:0≤n):0≤(ext n).1∧(ext n).1≤14:=by unfold ext;(repeat' split)<;>simp<;>omega
theorem e0n (n:Int):(ext n).2.length≤2:=by unfold ext;(repeat' split)<;>simp
def hdr (d n:Int):List UInt8:=u8 (16*(ext d).1+(ext n).1)::((ext d).2++(ext n).2)
theorem n0t (d n:Int):(hdr d n).length≤5:=by
 have:=e0n d
 have:=e0n n
 simp only[hdr,cL,cH];omega
def g0y:Int→List Opt→List UInt8
 |_,[]=> []
 |l,o::os=>hdr (o.num-l) o.val.length++o.val++g0y o.num os
def a0N:Int→List Opt→Int
 |l,[]=>l
 |_,o::os=>a0N o.num os
theorem h0T (o:Opt): ∀(l:Int) (os:List Opt),g0y l (os++[o])=g0y l os++(hdr (o.num-a0N l os) o.val.length++o.val)
 |l,[]=>by simp[g0y,a0N]
 |l,p::os=>by simp[g0y,a0N,h0T o p.num os]
theorem b0i (o:Opt): ∀(l:Int) (os:List Opt),a0N l (os++[o])=o.num
 |l,[]=>rfl
 |l,p::os=>b0i o p.num os
def AscO:Int→List Opt→Prop
 |_,[]=>True
 |l,o::os=>l≤o.num∧o.num≤65535∧(o.val.length:Int)≤1034∧AscO o.num os
instance AscO.dec: ∀(l:Int) (os:List Opt),Decidable (AscO l os)
 |_,[]=>isTrue trivial
 |l,o::os=>by
  unfold AscO
  have:=AscO.dec o.num os
  infer_instance
theorem d0Y (o:Opt): ∀(l:Int) (os:List Opt),AscO l (os++[o])↔AscO l os∧a0N l os≤o.num∧o.num≤65535∧(o.val.length:Int)≤1034
 |l,[]=>by simp[AscO,a0N]
 |l,p::os=>by simp only[cA,AscO,a0N,d0Y o p.num os];constructor<;>(rintro h;simp_all)
theorem k0J: ∀{l:Int} {os ps:List Opt},AscO l (os++ps)→AscO l os
 |l,[],ps,h=>trivial
 |l,o::os,ps,h=>⟨h.1,h.2.1,h.2.2.1,k0J h.2.2.2⟩
theorem b0X {l:Int}{os:List Opt}(h:AscO l os)(k:Nat):AscO l (os.take k):=k0J (ps:=os.drop k) (by rw[List.take_append_drop];exact h)
theorem c0W {l:Int}{os:List Opt}(h:AscO l os){k:Nat}(hk:k<os.length):a0N l (os.take k)≤(oat os k).num∧(oat os k).num≤65535∧((oat os k).val.length:Int)≤1034:=by
 have:=b0X h (k+1)
 rw[a0i Opt.none hk,d0Y]at this
 exact this.2
theorem h0l: ∀{l:Int} {os:List Opt},AscO l os→l≤a0N l os∧(os≠ []→a0N l os≤65535)
 |l,[],h=>⟨Int.le_refl _,fun h=>absurd rfl h⟩
 |l,o::os,h=>by
  have:=h0l h.2.2.2
  refine⟨Int.le_trans h.1 this.1,fun _=> ?_⟩
  cases os with
  |nil=>exact h.2.1
  |cons p os=>exact this.2 (by simp)
theorem d0N {l:Int}{os:List Opt}(h:AscO l os)(hl:l≤65535):l≤a0N l os∧a0N l os≤65535:=by
 refine⟨(h0l h).1,?_⟩
 cases os with
 |nil=>exact hl
 |cons p os=>exact(h0l h).2 (by simp)
theorem h0c: ∀{l:Int} {os:List Opt},AscO l os→(g0y l os).length≤os.length*1039
 |l,[],_=>by simp[g0y]
 |l,o::os,h=>by
  have h1:=h0c h.2.2.2
  have h2:=n0t (o.num-l) o.val.length
  have h3:=h.2.2.1
  simp only[g0y,cH,cL];omega
def f0y (m:Msg):List UInt8:= [u8 (64+16*m.ty+m.tok.length),u8 m.code,u8 (m.id/256),u8 m.id]
def raw (m:Msg):List UInt8:=f0y m++m.tok++g0y 0 m.opts++(if m.pay= []then []else 255::m.pay)
def h0y (c:Int):Prop:=c/32=0∨c/32=2∨c/32=4∨c/32=5
def OkM (m:Msg):Prop:=(0≤m.ty∧m.ty≤3∧0≤m.code∧m.code≤255∧h0y m.code)∧(0≤m.id∧m.id≤65535∧(m.tok.length:Int)≤8∧(m.opts.length:Int)≤32)∧AscO 0 m.opts∧
 (m.code=0→(m.tok.length:Int)+m.opts.length+m.pay.length≤0)∧(m.ty=3→m.code=0)∧(m.pay.length:Int)≤4096
instance (c:Int):Decidable (h0y c):=by unfold h0y;infer_instance
instance (m:Msg):Decidable (OkM m):=by unfold OkM;infer_instance
def ValM (m:Msg):Prop:=OkM m∧((raw m).length:Int)≤4096
instance (m:Msg):Decidable (ValM m):=by unfold ValM;infer_instance
theorem r0E {m:Msg}(h:OkM m):(raw m).length≤100000:=by
 have h1:=h0c h.2.2.1
 have h2:=h.2.1.2.2.1
 have h3:=h.2.1.2.2.2
 have h4:=h.2.2.2.2.2
 have h5:(if m.pay= []then []else(255:UInt8)::m.pay).length≤m.pay.length+1:=by split<;>simp
 simp only[raw,f0y,cH,cL,cE]at h5⊢
 omega
theorem f0F (n:Int)(hn: -1152921504606846976≤n∧n≤1152921504606846976):Sp Tryz.prog 183 [.val (.int .i64 n)] [] (Is (.tup [.val (.int .i64 (ext n).1),roB (ext n).2])):=by
 refine yH Tryz.func183 _ Tryz.ntmps183 (fun w0 R0=> ?_)
 refine zC (zq ?_)
 refine zc ?_
 refine zc (zH (zn (zC (xb (zC (zq ?_))))))
 refine zb ?_
 refine zR ?_
 refine zc (zH (zn ?_))
 refine ym (fun h=> ?_) (fun h=> ?_)<;>(try simp only[vU]at h)
 ·have e:ext n=(n,[]):=by unfold ext;rw[if_pos h]
  refine zC (zq ?_)
  refine zb ?_
  refine zc ?_
  refine zc (zH (zn (y3 ?_)))
  refine wg (xh ?_)
  refine AQ.g ?_
  refine G.nilRo 3 rfl ?_
  refine AQ.u ?_
  try dsimp only[List.map,List.eraseIdx,cA,cN]
  refine AQ.ret2 rfl rfl rfl nS (⟨by rw[e];rfl,rfl⟩)
 refine zC (zq ?_)
 refine zb ?_
 refine zR ?_
 refine zc (zH (zn ?_))
 refine ym (fun h2=> ?_) (fun h2=> ?_)<;>(try simp only[vU]at h2)
 ·have e:ext n=(13,[u8 (n-13)]):=by unfold ext;rw[if_neg (by omega),if_pos h2]
  refine zC (zq ?_)
  refine zb ?_
  refine yG ?_
  refine y4 ?_
  refine zU ?_
  intro B1
  refine zc ?_
  refine zc (zH (zn (y3 ?_)))
  refine wg (xh ?_)
  refine AQ.g ?_
  refine G.freezeSl 0 3 rfl rfl ⟨Nat.le_refl _,by unfold maxLen;omega⟩ ?_;refine G.unfull 3 rfl ?_
  refine AQ.u ?_
  try dsimp only[List.map,List.eraseIdx,cA,cN]
  refine AQ.ret2 rfl rfl rfl nS (⟨by rw[e];rfl,rfl⟩)
 have e:ext n=(14,[u8 ((n-269)/256),u8 (n-269)]):=by unfold ext;rw[if_neg (by omega),if_neg (by omega)]
 refine yU (xA (zn (zC (zq ?_))))
 refine zb ?_
 refine yG ?_
 refine wZ ?_
 refine y4 ?_
 refine zb ?_
 refine yG ?_
 refine y4 ?_
 refine zU ?_
 intro B2
 refine zc ?_
 refine zc (zH (zn (y3 ?_)))
 refine AQ.g ?_
 refine G.freezeSl 0 3 rfl rfl ⟨Nat.le_refl _,by unfold maxLen;omega⟩ ?_;refine G.unfull 3 rfl ?_
 refine AQ.u ?_
 try dsimp only[List.map,List.eraseIdx,cA,cN]
 refine AQ.ret2 rfl rfl rfl nS (⟨by rw[e];rfl,rfl⟩)
theorem k0a (n:Int)(hn: -1152921504606846976≤n∧n≤1152921504606846976):Sp Tryz.prog 182 [.val (.int .i64 n)] [] (Is (.tup [.val (.int .u8 ((u8 (ext n).1).toNat:Int)),roB (ext n).2])):=by
 refine yH Tryz.func182 _ Tryz.ntmps182 (fun w0 R0=> ?_)
 refine zC (zq ?_)
 refine zc ?_
 refine zc (zH (zn (zC (xb (zC (zq ?_))))))
 refine zb ?_
 refine zR ?_
 refine zc (zH (zn ?_))
 refine ym (fun h=> ?_) (fun h=> ?_)<;>(try simp only[vU]at h)
 ·have e:ext n=(n,[]):=by unfold ext;rw[if_pos h]
  refine zC (zq ?_)
  refine zb ?_
  refine y4 ?_
  refine zc ?_
  refine zc (zH (zn (y3 ?_)))
  refine wg (xh ?_)
  refine AQ.g ?_
  refine G.nilRo 3 rfl ?_
  refine AQ.u ?_
  try dsimp only[List.map,List.eraseIdx,cA,cN]
  refine AQ.ret2 rfl rfl rfl nS (⟨by rw[e];rfl,rfl⟩)
 refine zC (zq ?_)
 refine zb ?_
 refine zR ?_
 refine zc (zH (zn ?_))
 refine ym (fun h2=> ?_) (fun h2=> ?_)<;>(try simp only[vU]at h2)
 ·have e:ext n=(13,[u8 (n-13)]):=by unfold ext;rw[if_neg (by omega),if_pos h2]
  refine zC (zq ?_)
  refine zb ?_
  refine yG ?_
  refine y4 ?_
  refine zU ?_
  intro B1
  refine zc ?_
  refine zc (zH (zn (y3 ?_)))
  refine wg (xh ?_)
  refine AQ.g ?_
  refine G.freezeSl 0 3 rfl rfl ⟨Nat.le_refl _,by unfold maxLen;omega⟩ ?_;refine G.unfull 3 rfl ?_
  refine AQ.u ?_
  try dsimp only[List.map,List.eraseIdx,cA,cN]
  refine AQ.ret2 rfl rfl rfl nS (⟨by rw[e];rfl,rfl⟩)
 have e:ext n=(14,[u8 ((n-269)/256),u8 (n-269)]):=by unfold ext;rw[if_neg (by omega),if_neg (by omega)]
 refine yU (xA (zn (zC (zq ?_))))
 refine zb ?_
 refine yG ?_
 refine wZ ?_
 refine y4 ?_
 refine zb ?_
 refine yG ?_
 refine y4 ?_
 refine zU ?_
 intro B2
 refine zc ?_
 refine zc (zH (zn (y3 ?_)))
 refine AQ.g ?_
 refine G.freezeSl 0 3 rfl rfl ⟨Nat.le_refl _,by unfold maxLen;omega⟩ ?_;refine G.unfull 3 rfl ?_
 refine AQ.u ?_
 try dsimp only[List.map,List.eraseIdx,cA,cN]
 refine AQ.ret2 rfl rfl rfl nS (⟨by rw[e];rfl,rfl⟩)
theorem o0s (m:Msg):Sp Tryz.prog 162 [b0n m] [] (Is (.val (.bool (decide (OkM m))))):=by
 obtain⟨ty,code,id,tok,opts,pay⟩:=m
 refine yH Tryz.func162 _ Tryz.ntmps162 (fun w0 R0=> ?_)
 refine zC (zq ?_)
 refine z9 ?_
 intro B1
 refine zc (zH (zn (zC (zq ?_))))
 refine zt ?_
 refine zA ?_
 refine vO (wB 5 32) ?_
 refine zc (zH (zn (zC (zC (zq ?_)))))
 refine zt ?_
 refine zA ?_
 refine zR ?_
 refine zb ?_
 refine zK ?_
 refine zu 14 ?_
 refine yy 15 ?_
 refine zG ?_
 refine zb ?_
 refine zK ?_
 refine zu 19 ?_
 refine AO.opG rfl rfl rfl (fun hp=>wP 20 rfl (by exact hp) yp) ?_
 refine zG ?_
 refine zb ?_
 refine zK ?_
 refine zu 24 ?_
 refine yy 25 ?_
 refine zG ?_
 refine zb ?_
 refine yl ?_
 refine xF 29 ?_
 refine wG 30 ?_
 refine yl ?_
 refine xF 32 ?_
 refine wI 31 ?_
 refine wG 34 ?_
 refine yl ?_
 refine xF 36 ?_
 refine wI 35 ?_
 refine wG 38 ?_
 refine yl ?_
 refine xF 40 ?_
 refine wI 39 ?_
 refine zG (zH (zn ?_))
 refine ym (fun h=> ?_) (fun h=> ?_)<;>(try simp only[vU]at h)
 ·have e:decide (OkM ⟨ty,code,id,tok,opts,pay⟩)=false:=by
   refine decide_eq_false fun hk=> ?_
   obtain⟨⟨a1,a2,a3,a4,a5⟩, -⟩:=hk
   simp only[h0y]at*
   omega
  refine zC (zq ?_)
  refine zc (zH (zn (y3 (xh ?_))))
  refine vm rfl rfl nS (⟨congrArg (fun z=>AV.val (.bool z)) e.symm,rfl⟩)
 refine yU (zn (zC (zC (zq ?_))))
 refine zt ?_
 refine zA ?_
 refine zR ?_
 refine zb ?_
 refine zK ?_
 refine zu 48 ?_
 refine yy 49 ?_
 refine zG ?_
 refine zb ?_
 refine zK ?_
 refine zu 53 ?_
 refine yg 54 ?_
 refine yy 55 ?_
 refine zG ?_
 refine zb ?_
 refine zK ?_
 refine zu 59 ?_
 refine yg 60 ?_
 refine yy 61 ?_
 refine zG (zH (zn ?_))
 refine ym (fun h2=> ?_) (fun h2=> ?_)<;>(try simp only[vU]at h2)
 ·have e:decide (OkM ⟨ty,code,id,tok,opts,pay⟩)=false:=by
   refine decide_eq_false fun hk=> ?_
   obtain⟨-,⟨a1,a2,a3,a4⟩, -⟩:=hk
   simp only at*
   omega
  refine zC (zq ?_)
  refine zc (zH (zn (y3 (xh ?_))))
  refine vm rfl rfl nS (⟨congrArg (fun z=>AV.val (.bool z)) e.symm,rfl⟩)
 refine yU (zn (zC (zq ?_)))
 refine zc (zH (zn (zC (zC (zq ?_)))))
 refine zt ?_
 refine zA ?_
 refine zZ ?_
 refine zb (zH (zn (xb ?_)))
 refine zh [(1,_),(65,_),(66,_)] (fun nn E H=> ∃(k:Nat),(k≤opts.length)∧(AscO 0 (opts.take k))∧nn=opts.length-k∧E= [(4,.val (.int .i64 (a0N 0 (opts.take k)))),(67,.val (.int .i64 (k:Int)))]∧H= [.blk B1 29 6 [.val (.int .i64 ty),.val (.int .i64 code),.val (.int .i64 id),roB tok,roO opts,roB pay]]) _ (⟨0,by omega,trivial,rfl,rfl,rfl⟩) ?_
 rintro nn E H ⟨k,h1,ha,rfl,rfl,rfl⟩
 dsimp only[cA,cN]
 refine zC (zq ?_)
 refine zR (zH (zn (zC ?_)))
 refine ym (fun h3=> ?_) (fun h3=> ?_)<;>(try simp only[vU]at h3)
 ·have hk:k<opts.length:=by omega
  refine yU (zn (zC (xb (zC (zq ?_)))))
  refine yf ?_
  refine yV ?_
  refine z7 ?_
  intro B2
  refine zm 0 (zH (zn (zC (zC (zq ?_)))))
  refine zt ?_
  refine zA ?_
  refine zb ?_
  refine zR ?_
  refine zb ?_
  refine zK ?_
  refine zu 76 ?_
  refine yy 77 ?_
  refine zG ?_
  refine zb ?_
  refine zK ?_
  refine zu 81 ?_
  refine yg 82 ?_
  refine yy 83 ?_
  refine zG (zH (zn ?_))
  refine ym (fun h4=> ?_) (fun h4=> ?_)<;>(try simp only[vU]at h4)
  ·have e:decide (OkM ⟨ty,code,id,tok,opts,pay⟩)=false:=by
    refine decide_eq_false fun hk'=> ?_
    obtain⟨-, -,a1, -⟩:=hk'
    have:=c0W a1 hk
    simp only at this
    omega
   refine zC (zq ?_)
   refine zc (zH (zn (y3 (xh ?_))))
   refine wg (xh ?_)
   refine AQ.loopR ?_
   refine wg (xh ?_)
   refine vm rfl rfl nS (⟨congrArg (fun z=>AV.val (.bool z)) e.symm,rfl⟩)
  have ha2:AscO 0 (opts.take (k+1)):=by
   rw[a0i Opt.none hk,d0Y]
   exact⟨ha,h4.1.1,h4.1.2,h4.2⟩
  have hl2:a0N 0 (opts.take (k+1))=(oat opts k).num:=by rw[a0i Opt.none hk,b0i]
  refine yU (zn (zq ?_))
  refine zt ?_
  refine zA ?_
  refine zc (zH (xA (zn (zq ?_))))
  refine zx ?_
  refine zb (zH ?_)
  refine zJ _ _ _ (by omega) (⟨k+1,by omega,ha2,rfl,by rw[hl2],rfl⟩)
 obtain rfl:k=opts.length:=by omega
 rw[List.take_length]at ha
 have hw:(pay.length:Int)≤4096→IntKind.i64.wrap ((tok.length:Int)+opts.length+pay.length)=(tok.length:Int)+opts.length+pay.length:=fun h=>d0Z (by omega)
 refine wm ?_
 refine xY ?_
 refine wa ?_
 refine xq (zn (zC (zC (zq ?_))))
 refine zt ?_
 refine zA ?_
 refine yi ?_
 refine zb ?_
 refine zK ?_
 refine zu 93 ?_
 refine yg 94 ?_
 refine zK ?_
 refine zu 96 ?_
 refine yg 97 ?_
 refine AO.opG rfl rfl rfl (fun hp=>wP 95 rfl (by exact hp) (wP 98 rfl (by exact hp) zD)) ?_
 refine zK ?_
 refine zu 100 ?_
 refine yg 101 ?_
 refine AO.opG rfl rfl rfl (fun hp=>wP 99 rfl (by exact hp) (wP 102 rfl (by exact hp) (O.add rfl rfl rfl (by rfl)))) ?_
 refine yy 103 ?_
 refine zN (zH (zn ?_))
 refine ym (fun h5=> ?_) (fun h5=> ?_)<;>(try simp only[vU]at h5)
 ·have e:decide (OkM ⟨ty,code,id,tok,opts,pay⟩)=false:=by
   refine decide_eq_false fun hk'=> ?_
   obtain⟨-, -, -,a1, -,a2⟩:=hk'
   simp only at a1 a2
   have h6:=h5.2
   rw[hw a2]at h6
   have:=a1 h5.1
   omega
  refine zC (zq ?_)
  refine zc (zH (zn (y3 (xh ?_))))
  refine vm rfl rfl nS (⟨congrArg (fun z=>AV.val (.bool z)) e.symm,rfl⟩)
 refine yU (zn (zC (zq ?_)))
 refine zt ?_
 refine zA ?_
 refine y8 ?_
 refine zb ?_
 refine zK ?_
 refine zu 110 ?_
 refine xe 111 ?_
 refine zG ?_
 refine zb ?_
 refine zK ?_
 refine zu 115 ?_
 refine yg 116 ?_
 refine xr 117 ?_
 refine zN ?_
 refine zc (zH (zn (y3 ?_)))
 have e:decide (OkM ⟨ty,code,id,tok,opts,pay⟩)=((ty !=3||code==0)&&decide ((pay.length:Int)≤4096)):=by
  refine g0K ?_
  simp only[OkM,Bool.and_eq_true,Bool.or_eq_true,bne_iff_ne,beq_iff_eq,cQ,ne_eq]
  constructor
  ·rintro⟨-, -, -, -,a1,a2⟩
   refine⟨?_,a2⟩
   by_cases h9:ty=3
   ·exact .inr (a1 h9)
   exact .inl h9
  rintro⟨a1,a2⟩
  refine⟨⟨by omega,by omega,by omega,by omega,?_⟩,⟨by omega,by omega,by omega,by omega⟩,ha,?_,?_,a2⟩
  ·unfold h0y;omega
  ·intro h9
   rcases Int.lt_or_le 0 ((tok.length:Int)+opts.length+pay.length)with h|h
   ·exact absurd h (by have:=h5 h9;rw[hw a2]at this;omega)
   exact h
  intro h9
  rcases a1 with a1|a1
  ·exact absurd h9 a1
  exact a1
 refine vm rfl rfl nS (⟨congrArg (fun z=>AV.val (.bool z)) e.symm,rfl⟩)
def b0u (m:Msg)(k:Nat):List UInt8:=f0y m++m.tok++g0y 0 (m.opts.take k)
theorem c0Z {m:Msg}{k:Nat}(h:k<m.opts.length):b0u m (k+1)=b0u m k++(hdr ((oat m.opts k).num-a0N 0 (m.opts.take k)) (oat m.opts k).val.length++(oat m.opts k).val):=by
 rw[b0u,a0i Opt.none h,h0T,b0u];simp
theorem h0S {m:Msg}(h:OkM m)(k:Nat):(b0u m k).length≤12+k*1039:=by
 have h1:=h0c (b0X h.2.2.1 k)
 have h2:=h.2.1.2.2.1
 simp only[b0u,f0y,cH,cL,cE,List.length_take]at h1⊢
 have:min k m.opts.length*1039≤k*1039:=Nat.mul_le_mul_right _ (Nat.min_le_left _ _)
 omega
theorem m0G (m:Msg):raw m=b0u m m.opts.length++(if m.pay= []then []else 255::m.pay):=by rw[raw,b0u,List.take_length]
theorem n0z (m:Msg)(h:OkM m):Sp Tryz.prog 163 [b0n m] [] (Is (roB (raw m))):=by
 have hlen:=fun k=>h0S h k
 obtain⟨⟨a1,a2,a3,a4,a5⟩,⟨a6,a7,a8,a9⟩,a10, -, -,a11⟩:=h
 refine yH Tryz.func163 _ Tryz.ntmps163 (fun w0 R0=> ?_)
 have hd0a:(b0u m 0).length=4+m.tok.length:=by simp[b0u,f0y,g0y];omega
 have hd0b:a0a (b0u m 0)= .val (.int .u8 ((u8 (64+m.ty*16+m.tok.length)).toNat:Int)):: .val (.int .u8 ((u8 m.code).toNat:Int)):: .val (.int .u8 ((u8 (m.id/256)).toNat:Int)):: .val (.int .u8 ((u8 m.id).toNat:Int))::a0a m.tok:=by
  simp only[b0u,f0y,cZ,g0y,cP,a0O]
  simp[a0a,show m.ty*16=16*m.ty by omega]
 refine zC (zq ?_)
 refine z9 ?_
 intro B1
 refine zc (zH (zn (zC (zq ?_))))
 refine zt ?_
 refine zA ?_
 refine vO (O.shlK 4 16 rfl rfl rfl rfl (by rfl) (by exact d0Z (by omega))) ?_
 refine vO (O.or_ rfl rfl rfl (m0W 6 (m:=64) (by decide) (by omega) (by omega))) ?_
 refine zt ?_
 refine zA ?_
 refine zZ ?_
 refine vO (O.or_ rfl rfl rfl (m0W 4 (m:=16) (by decide) (by omega) (by omega))) ?_
 refine y4 ?_
 refine zt ?_
 refine zA ?_
 refine y4 ?_
 refine zt ?_
 refine zA ?_
 refine wZ ?_
 refine y4 ?_
 refine zt ?_
 refine zA ?_
 refine y4 ?_
 refine zU ?_
 intro B2
 refine AO.g ?_
 refine xK B2 4 4 0 rfl rfl rfl (Nat.le_refl _) ?_
 refine AO.u ?_
 dsimp only[List.set]
 refine zc (zH (zn (zC (zq ?_))))
 refine zb ?_
 refine zt ?_
 refine zp ?_
 refine zF 0 ?_
 intro V3 hV3
 refine zc (zH (zn (zC (zq ?_))))
 refine zc (zH (zn (zC (zC (zq ?_)))))
 refine zt ?_
 refine zp ?_
 refine zZ ?_
 refine zb (zH (zn (xb ?_)))
 refine zh [(1,_),(36,_),(37,_)] (fun nn E H=> ∃(k:Nat) (V:Value),(k≤m.opts.length)∧(V.oneCell'=true)∧nn=m.opts.length-k∧E= [(3,.val V),(4,.val (.int .i64 (a0N 0 (m.opts.take k)))),(38,.val (.int .i64 (k:Int)))]∧H= [.row V 5 1 (b0u m k).length (a0a (b0u m k)),.blk B1 29 6 [.val (.int .i64 m.ty),.val (.int .i64 m.code),.val (.int .i64 m.id),roB m.tok,roO m.opts,roB m.pay]]) _ (⟨0,V3,by omega,hV3,rfl,rfl,by rw[hd0b,hd0a]⟩) ?_
 rintro nn E H ⟨k,V,h1,hV,rfl,rfl,rfl⟩
 dsimp only[cA,cN]
 have hl0:=hlen k
 refine zC (zq ?_)
 refine zR (zH (zn (zC ?_)))
 refine ym (fun h3=> ?_) (fun h3=> ?_)<;>(try simp only[vU]at h3)
 ·have hk:k<m.opts.length:=by omega
  have hl1:=hlen (k+1)
  have ho:=c0W a10 hk
  have hla:=d0N (b0X a10 k) (by omega)
  have hd1:=c0d ((oat m.opts k).num-a0N 0 (m.opts.take k)) (by omega)
  have hq1:=c0d ((oat m.opts k).val.length:Int) (by omega)
  have hd2:=e0n ((oat m.opts k).num-a0N 0 (m.opts.take k))
  have hq2:=e0n ((oat m.opts k).val.length:Int)
  have hdu:=a0I (x:=(ext ((oat m.opts k).num-a0N 0 (m.opts.take k))).1) (by omega)
  have hqu:=a0I (x:=(ext ((oat m.opts k).val.length:Int)).1) (by omega)
  have hxu:=a0I (x:=16*(ext ((oat m.opts k).num-a0N 0 (m.opts.take k))).1+(ext ((oat m.opts k).val.length:Int)).1) (by omega)
  have hxv:((u8 (16*(ext ((oat m.opts k).num-a0N 0 (m.opts.take k))).1+(ext ((oat m.opts k).val.length:Int)).1)).toNat:Int)=((u8 (ext ((oat m.opts k).num-a0N 0 (m.opts.take k))).1).toNat:Int)*16+((u8 (ext ((oat m.opts k).val.length:Int)).1).toNat:Int):=by omega
  have hlast:a0N 0 (m.opts.take (k+1))=(oat m.opts k).num:=by rw[a0i Opt.none hk,b0i]
  have hsc:a0a (b0u m (k+1))=a0a (b0u m k)++[.val (.int .u8 (((u8 (ext ((oat m.opts k).num-a0N 0 (m.opts.take k))).1).toNat:Int)*16+((u8 (ext ((oat m.opts k).val.length:Int)).1).toNat:Int)))]++a0a (ext ((oat m.opts k).num-a0N 0 (m.opts.take k))).2++a0a (ext ((oat m.opts k).val.length:Int)).2++a0a (oat m.opts k).val:=by
   rw[c0Z hk,hdr]
   simp only[a0O,List.append_assoc,cA,a0a,List.map_cons,List.map_nil,cN,List.map_append,hxv]
  have hsl:(b0u m (k+1)).length=(b0u m k).length+1+(ext ((oat m.opts k).num-a0N 0 (m.opts.take k))).2.length+(ext ((oat m.opts k).val.length:Int)).2.length+(oat m.opts k).val.length:=by
   rw[c0Z hk,hdr]
   simp only[cH,cL];omega
  refine yU (zn (zC (xb (zC (zq ?_)))))
  refine yf ?_
  refine yV ?_
  refine zd ?_
  intro B4
  refine za 0 (zH (zn (zC (zq ?_))))
  refine zt ?_
  refine zA ?_
  refine zb ?_
  refine yG ?_
  refine vO (xD rfl Tryz.func182 rfl rfl rfl (k0a _ ⟨by omega,by omega⟩)) ?_
  refine zb ?_
  refine zW ?_
  refine zW ?_
  refine zc ?_
  refine zc (zH (zn (zC (zq ?_))))
  refine zt ?_
  refine zA ?_
  refine zZ ?_
  refine vO (xD rfl Tryz.func182 rfl rfl rfl (k0a _ ⟨by omega,by omega⟩)) ?_
  refine zb ?_
  refine zW ?_
  refine zW ?_
  refine zc ?_
  refine zc (zH (zn (zC ?_)))
  refine AW.regionM [(0,false),(1,false),(2,false),(3,false),(4,false),(5,false),(7,false),(9,false),(11,false),(12,false),(6,true),(8,true),(10,true),(13,true),(14,true)] (by kernel_rfl) (by kernel_rfl) (by exact(by exact c0Y 3 1 rfl rfl a0c)) ?_
  dsimp only[List.eraseIdx]
  refine y0 ?_
  refine y0 ?_
  refine vQ rfl (O.shlK 4 16 rfl rfl rfl rfl (by rfl) (by exact wU8 (by omega))) ?_
  refine y0 ?_
  refine vQ rfl (O.or_ rfl rfl rfl (v0O 4 (m:=16) (by decide) (by omega) (by omega))) ?_
  refine xp ?_
  refine y0 ?_
  refine y0 ?_
  refine xl ?_
  refine wU ?_
  refine xU _ (fun w0 R0=> ?_)
  refine zB 0 ?_
  intro V5 hV5
  refine AM.ok ?_
  dsimp only[a0w]
  refine xU _ (fun w0 R0=> ?_)
  refine zF 0 ?_
  intro V6 hV6
  refine AM.ok ?_
  dsimp only[a0w]
  refine xU _ (fun w0 R0=> ?_)
  refine zF 0 ?_
  intro V7 hV7
  refine AM.ok ?_
  dsimp only[a0w]
  refine xU _ (fun w0 R0=> ?_)
  refine zF 0 ?_
  intro V8 hV8
  refine AM.ok ?_
  dsimp only[a0w]
  refine xU _ (fun w0 R0=> ?_)
  refine zc ?_
  refine AM.ok ?_
  dsimp only[a0w]
  refine vn ?_
  dsimp only[cA,cN]
  refine zn (zq ?_)
  refine zt ?_
  refine zp ?_
  refine zc (zH (xA (zn (zq ?_))))
  refine zx ?_
  refine zb (zH ?_)
  refine xv _ _ _ (by omega) (⟨k+1,_,by omega,‹_›,rfl,by rw[hlast],by rw[hsc,hsl]⟩)
 obtain rfl:k=m.opts.length:=by omega
 have hre:raw m=b0u m m.opts.length++(if m.pay= []then []else 255::m.pay):=m0G m
 refine wm ?_
 refine xY ?_
 refine wa ?_
 refine xq (zn (zC (zC (zq ?_))))
 refine zt ?_
 refine zp ?_
 refine zZ ?_
 refine yN (zH (zn ?_))
 refine ym (fun h5=> ?_) (fun h5=> ?_)<;>(try simp only[vU]at h5)
 ·rw[if_neg (fun e=>by rw[e]at h5;simp at h5)]at hre
  refine AW.regionM [(0,false),(1,false),(3,false),(4,false),(2,true),(5,true),(6,true)] (by kernel_rfl) (by kernel_rfl) (by exact(by exact c0Y 3 0 rfl rfl a0c)) ?_
  dsimp only[List.eraseIdx]
  refine y0 ?_
  refine xp ?_
  refine xl ?_
  refine wU ?_
  refine xU _ (fun w0 R0=> ?_)
  refine zB 0 ?_
  intro V9 hV9
  refine AM.ok ?_
  dsimp only[a0w]
  refine xU _ (fun w0 R0=> ?_)
  refine AO.append' (i:=0) rfl rfl rfl rfl (by rfl) (by rfl) rfl rfl rfl (by exact SrcA.ro TyD.ax (by(simp;done)) (lB rfl)) (by(simp[AV.cells,AV.one, *];done)) (by(unfold maxLen;omega)) (by omega) (by(dsimp only[List.set,List.append,cA,cN,a0s,a0r,a0u,a0e,a0v,AV.cells,List.map,List.map_cons,List.map_nil,List.take,List.drop,Nat.zero_add,Nat.add_zero,Nat.reduceAdd,Nat.reduceMul,Nat.zero_mul,Value.cells,List.toList_toArray,a0t,List.replicate,List.flatten,cP];done)) (fun _=>by(dsimp only[List.set];done)) ?_
  intro V10 hV10
  refine AM.ok ?_
  dsimp only[a0w]
  refine xU _ (fun w0 R0=> ?_)
  refine zc ?_
  refine AM.ok ?_
  dsimp only[a0w]
  refine vn ?_
  dsimp only[cA,cN]
  refine zn (zC (zq ?_))
  refine zb ?_
  refine zc (zH (zn (y3 ?_)))
  refine AQ.g ?_
  refine yj 0 [2] ?_
  refine AQ.u ?_
  try dsimp only[List.map,List.eraseIdx,cA,cN]
  refine vm rfl rfl nS (⟨b0r (by rw[hre];simp only[cH,cL];omega) (by rw[hre];simp[a0a]),rfl⟩)
 rw[if_pos (List.eq_nil_of_length_eq_zero (by omega)),cP]at hre
 refine yU (zn (zC (zq ?_)))
 refine zb ?_
 refine zc (zH (zn (y3 ?_)))
 refine AQ.g ?_
 refine yj 0 [2] ?_
 refine AQ.u ?_
 try dsimp only[List.map,List.eraseIdx,cA,cN]
 refine vm rfl rfl nS (⟨by rw[hre];rfl,rfl⟩)
theorem m0F (m:Msg)(h:OkM m):Sp Tryz.prog 165 [b0n m] [] (Is (roB (raw m))):=by
 have hlen:=fun k=>h0S h k
 obtain⟨⟨a1,a2,a3,a4,a5⟩,⟨a6,a7,a8,a9⟩,a10, -, -,a11⟩:=h
 refine yH Tryz.func165 _ Tryz.ntmps165 (fun w0 R0=> ?_)
 have hd0a:(b0u m 0).length=4+m.tok.length:=by simp[b0u,f0y,g0y];omega
 have hd0b:a0a (b0u m 0)= .val (.int .u8 ((u8 (64+16*m.ty+m.tok.length)).toNat:Int)):: .val (.int .u8 ((u8 m.code).toNat:Int)):: .val (.int .u8 ((u8 (m.id/256)).toNat:Int)):: .val (.int .u8 ((u8 m.id).toNat:Int))::a0a m.tok:=by
  simp only[b0u,f0y,cZ,g0y,cP,a0O]
  simp[a0a]
 refine zC (zq ?_)
 refine z9 ?_
 intro B1
 refine zc (zH (zn (zC (zq ?_))))
 refine zt ?_
 refine zA ?_
 refine wL ?_
 refine zx ?_
 refine zt ?_
 refine zA ?_
 refine zZ ?_
 refine zx ?_
 refine y4 ?_
 refine zt ?_
 refine zA ?_
 refine y4 ?_
 refine zt ?_
 refine zA ?_
 refine wZ ?_
 refine y4 ?_
 refine zt ?_
 refine zA ?_
 refine y4 ?_
 refine zU ?_
 intro B2
 refine AO.g ?_
 refine xK B2 4 4 0 rfl rfl rfl (Nat.le_refl _) ?_
 refine AO.u ?_
 dsimp only[List.set]
 refine zc (zH (zn (zC (zq ?_))))
 refine zb ?_
 refine zt ?_
 refine zp ?_
 refine zF 0 ?_
 intro V3 hV3
 refine zc (zH (zn (zC (zq ?_))))
 refine zc (zH (zn (zC (zC (zq ?_)))))
 refine zt ?_
 refine zp ?_
 refine zZ ?_
 refine zb (zH (zn (xb ?_)))
 refine zh [(1,_),(36,_),(37,_)] (fun nn E H=> ∃(k:Nat) (V:Value),(k≤m.opts.length)∧(V.oneCell'=true)∧nn=m.opts.length-k∧E= [(3,.val V),(4,.val (.int .i64 (a0N 0 (m.opts.take k)))),(38,.val (.int .i64 (k:Int)))]∧H= [.row V 5 1 (b0u m k).length (a0a (b0u m k)),.blk B1 29 6 [.val (.int .i64 m.ty),.val (.int .i64 m.code),.val (.int .i64 m.id),roB m.tok,roO m.opts,roB m.pay]]) _ (⟨0,V3,by omega,hV3,rfl,rfl,by rw[hd0b,hd0a]⟩) ?_
 rintro nn E H ⟨k,V,h1,hV,rfl,rfl,rfl⟩
 dsimp only[cA,cN]
 have hl0:=hlen k
 refine zC (zq ?_)
 refine zR (zH (zn (zC ?_)))
 refine ym (fun h3=> ?_) (fun h3=> ?_)<;>(try simp only[vU]at h3)
 ·have hk:k<m.opts.length:=by omega
  have hl1:=hlen (k+1)
  have ho:=c0W a10 hk
  have hla:=d0N (b0X a10 k) (by omega)
  have hd1:=c0d ((oat m.opts k).num-a0N 0 (m.opts.take k)) (by omega)
  have hq1:=c0d ((oat m.opts k).val.length:Int) (by omega)
  have hd2:=e0n ((oat m.opts k).num-a0N 0 (m.opts.take k))
  have hq2:=e0n ((oat m.opts k).val.length:Int)
  have hdu:=a0I (x:=(ext ((oat m.opts k).num-a0N 0 (m.opts.take k))).1) (by omega)
  have hqu:=a0I (x:=(ext ((oat m.opts k).val.length:Int)).1) (by omega)
  have hxu:=a0I (x:=16*(ext ((oat m.opts k).num-a0N 0 (m.opts.take k))).1+(ext ((oat m.opts k).val.length:Int)).1) (by omega)
  have hlast:a0N 0 (m.opts.take (k+1))=(oat m.opts k).num:=by rw[a0i Opt.none hk,b0i]
  have hsc:a0a (b0u m (k+1))=a0a (b0u m k)++[.val (.int .u8 ((u8 (16*(ext ((oat m.opts k).num-a0N 0 (m.opts.take k))).1+(ext ((oat m.opts k).val.length:Int)).1)).toNat:Int))]++a0a (ext ((oat m.opts k).num-a0N 0 (m.opts.take k))).2++a0a (ext ((oat m.opts k).val.length:Int)).2++a0a (oat m.opts k).val:=by
   rw[c0Z hk,hdr]
   simp only[a0O,List.append_assoc,cA,a0a,List.map_cons,List.map_nil,cN,List.map_append]
  have hsl:(b0u m (k+1)).length=(b0u m k).length+1+(ext ((oat m.opts k).num-a0N 0 (m.opts.take k))).2.length+(ext ((oat m.opts k).val.length:Int)).2.length+(oat m.opts k).val.length:=by
   rw[c0Z hk,hdr]
   simp only[cH,cL];omega
  refine yU (zn (zC (xb (zC (zq ?_)))))
  refine yf ?_
  refine yV ?_
  refine zd ?_
  intro B4
  refine za 0 (zH (zn (zC (zq ?_))))
  refine zt ?_
  refine zA ?_
  refine zb ?_
  refine yG ?_
  refine vO (xD rfl Tryz.func183 rfl rfl rfl (f0F _ ⟨by omega,by omega⟩)) ?_
  refine zb ?_
  refine zW ?_
  refine zW ?_
  refine zc ?_
  refine zc (zH (zn (zC (zq ?_))))
  refine zt ?_
  refine zA ?_
  refine zZ ?_
  refine vO (xD rfl Tryz.func183 rfl rfl rfl (f0F _ ⟨by omega,by omega⟩)) ?_
  refine zb ?_
  refine zW ?_
  refine zW ?_
  refine zc ?_
  refine zc (zH (zn (zC ?_)))
  refine AW.regionM [(0,false),(1,false),(2,false),(3,false),(4,false),(5,false),(6,false),(8,false),(10,false),(12,false),(13,false),(7,true),(9,true),(11,true),(14,true),(15,true)] (by kernel_rfl) (by kernel_rfl) (by exact(by exact c0Y 3 1 rfl rfl a0c)) ?_
  dsimp only[List.eraseIdx]
  refine y0 ?_
  refine y0 ?_
  refine vQ rfl xg ?_
  refine y0 ?_
  refine vQ rfl zD ?_
  refine vQ rfl (O.conv rfl rfl d0A) ?_
  refine xp ?_
  refine y0 ?_
  refine y0 ?_
  refine xl ?_
  refine wU ?_
  refine xU _ (fun w0 R0=> ?_)
  refine zB 0 ?_
  intro V5 hV5
  refine AM.ok ?_
  dsimp only[a0w]
  refine xU _ (fun w0 R0=> ?_)
  refine zF 0 ?_
  intro V6 hV6
  refine AM.ok ?_
  dsimp only[a0w]
  refine xU _ (fun w0 R0=> ?_)
  refine zF 0 ?_
  intro V7 hV7
  refine AM.ok ?_
  dsimp only[a0w]
  refine xU _ (fun w0 R0=> ?_)
  refine zF 0 ?_
  intro V8 hV8
  refine AM.ok ?_
  dsimp only[a0w]
  refine xU _ (fun w0 R0=> ?_)
  refine zc ?_
  refine AM.ok ?_
  dsimp only[a0w]
  refine vn ?_
  dsimp only[cA,cN]
  refine zn (zq ?_)
  refine zt ?_
  refine zp ?_
  refine zc (zH (xA (zn (zq ?_))))
  refine zx ?_
  refine zb (zH ?_)
  refine xv _ _ _ (by omega) (⟨k+1,_,by omega,‹_›,rfl,by rw[hlast],by rw[hsc,hsl]⟩)
 obtain rfl:k=m.opts.length:=by omega
 have hre:raw m=b0u m m.opts.length++(if m.pay= []then []else 255::m.pay):=m0G m
 refine wm ?_
 refine xY ?_
 refine wa ?_
 refine xq (zn (zC (zC (zq ?_))))
 refine zt ?_
 refine zp ?_
 refine zZ ?_
 refine yN (zH (zn ?_))
 refine ym (fun h5=> ?_) (fun h5=> ?_)<;>(try simp only[vU]at h5)
 ·rw[if_neg (fun e=>by rw[e]at h5;simp at h5)]at hre
  refine AW.regionM [(0,false),(1,false),(3,false),(4,false),(2,true),(5,true),(6,true)] (by kernel_rfl) (by kernel_rfl) (by exact(by exact c0Y 3 0 rfl rfl a0c)) ?_
  dsimp only[List.eraseIdx]
  refine y0 ?_
  refine xp ?_
  refine xl ?_
  refine wU ?_
  refine xU _ (fun w0 R0=> ?_)
  refine zB 0 ?_
  intro V9 hV9
  refine AM.ok ?_
  dsimp only[a0w]
  refine xU _ (fun w0 R0=> ?_)
  refine AO.append' (i:=0) rfl rfl rfl rfl (by rfl) (by rfl) rfl rfl rfl (by exact SrcA.ro TyD.ax (by(simp;done)) (lB rfl)) (by(simp[AV.cells,AV.one, *];done)) (by(unfold maxLen;omega)) (by omega) (by(dsimp only[List.set,List.append,cA,cN,a0s,a0r,a0u,a0e,a0v,AV.cells,List.map,List.map_cons,List.map_nil,List.take,List.drop,Nat.zero_add,Nat.add_zero,Nat.reduceAdd,Nat.reduceMul,Nat.zero_mul,Value.cells,List.toList_toArray,a0t,List.replicate,List.flatten,cP];done)) (fun _=>by(dsimp only[List.set];done)) ?_
  intro V10 hV10
  refine AM.ok ?_
  dsimp only[a0w]
  refine xU _ (fun w0 R0=> ?_)
  refine zc ?_
  refine AM.ok ?_
  dsimp only[a0w]
  refine vn ?_
  dsimp only[cA,cN]
  refine zn (zC (zq ?_))
  refine zb ?_
  refine zc (zH (zn (y3 ?_)))
  refine AQ.g ?_
  refine yj 0 [2] ?_
  refine AQ.u ?_
  try dsimp only[List.map,List.eraseIdx,cA,cN]
  refine vm rfl rfl nS (⟨b0r (by rw[hre];simp only[cH,cL];omega) (by rw[hre];simp[a0a]),rfl⟩)
 rw[if_pos (List.eq_nil_of_length_eq_zero (by omega)),cP]at hre
 refine yU (zn (zC (zq ?_)))
 refine zb ?_
 refine zc (zH (zn (y3 ?_)))
 refine AQ.g ?_
 refine yj 0 [2] ?_
 refine AQ.u ?_
 try dsimp only[List.map,List.eraseIdx,cA,cN]
 refine vm rfl rfl nS (⟨by rw[hre];rfl,rfl⟩)
def g0I (m:Msg):List UInt8×Int:=if ValM m then(raw m,0)else([],1)
theorem n0B {m:Msg}(h:ValM m):g0I m=(raw m,0):=if_pos h
theorem n0C {m:Msg}(h: ¬ValM m):g0I m=([],1):=if_neg h
theorem s0z {c:Int}(h:0≤c):c.tdiv 32=c/32:=Int.tdiv_eq_ediv_of_nonneg h
theorem f0n (m:Msg):Sp Tryz.prog 164 [b0n m] [] (Is (.val (.bool (decide (ValM m))))):=by
 obtain⟨ty,code,id,tok,opts,pay⟩:=m
 refine yH Tryz.func164 _ Tryz.ntmps164 (fun w0 R0=> ?_)
 refine zC (zq ?_)
 refine z9 ?_
 intro B1
 refine zc (zH (zn (zC (zC (zq ?_)))))
 refine zt ?_
 refine zA ?_
 refine zR ?_
 refine zb ?_
 refine zK ?_
 refine zu 11 ?_
 refine yy 12 ?_
 refine zG ?_
 refine zb ?_
 refine zK ?_
 refine zu 16 ?_
 refine AO.opG rfl rfl rfl (fun hp=>wP 17 rfl (by exact hp) yp) ?_
 refine zG ?_
 refine zb ?_
 refine zK ?_
 refine zu 21 ?_
 refine yy 22 ?_
 refine zG ?_
 refine zb ?_
 refine zK ?_
 refine zu 26 ?_
 refine AO.opG rfl rfl rfl (fun hp=>wP 27 rfl (by exact hp) yp) ?_
 refine zG ?_
 refine zb ?_
 refine zK ?_
 refine zu 31 ?_
 refine yy 32 ?_
 refine zG ?_
 refine zb ?_
 refine zK ?_
 refine zu 36 ?_
 refine yg 37 ?_
 refine yy 38 ?_
 refine zG ?_
 refine zb ?_
 refine zK ?_
 refine zu 42 ?_
 refine yg 43 ?_
 refine yy 44 ?_
 refine zG ?_
 refine zb ?_
 refine zK ?_
 refine zu 48 ?_
 refine yg 49 ?_
 refine yy 50 ?_
 refine zG (zH (zn ?_))
 refine ym (fun h=> ?_) (fun h=> ?_)<;>(try simp only[vU]at h)
 ·have e:decide (ValM ⟨ty,code,id,tok,opts,pay⟩)=false:=by
   refine decide_eq_false fun hk=> ?_
   obtain⟨⟨⟨a1,a2,a3,a4,a5⟩,⟨b1,b2,b3,b4⟩, -, -, -,b5⟩, -⟩:=hk
   simp only at*
   omega
  refine zC (zq ?_)
  refine zc (zH (zn (y3 (xh ?_))))
  refine vm rfl rfl nS (⟨congrArg (fun z=>AV.val (.bool z)) e.symm,rfl⟩)
 have hq:IntKind.i64.wrap (code.tdiv 32)=code/32:=by rw[s0z (by omega),d0Z (by omega)]
 refine yU (zn (zC (zq ?_)))
 refine zt ?_
 refine zA ?_
 refine vO (O.quo rfl rfl rfl (by omega) (by rfl)) ?_
 refine zc (zH (zn (zC (zC (zq ?_)))))
 refine zb ?_
 refine y8 ?_
 refine zb ?_
 refine yl ?_
 refine xF 59 ?_
 refine zN ?_
 refine zb ?_
 refine yl ?_
 refine xF 63 ?_
 refine zN ?_
 refine zb ?_
 refine yl ?_
 refine xF 67 ?_
 refine zN (zH (zn ?_))
 refine ym (fun h2=> ?_) (fun h2=> ?_)<;>(try simp only[vU]at h2)
 ·have e:decide (ValM ⟨ty,code,id,tok,opts,pay⟩)=false:=by
   refine decide_eq_false fun hk=> ?_
   obtain⟨⟨⟨a1,a2,a3,a4,a5⟩, -⟩, -⟩:=hk
   simp only[h0y]at*
   rw[hq]at h2
   omega
  refine zC (zq ?_)
  refine zc (zH (zn (y3 (xh ?_))))
  refine vm rfl rfl nS (⟨congrArg (fun z=>AV.val (.bool z)) e.symm,rfl⟩)
 refine yU (zn (zC (zq ?_)))
 refine zc (zH (zn (zC (zC (zq ?_)))))
 refine zt ?_
 refine zA ?_
 refine zZ ?_
 refine zb (zH (zn (xb ?_)))
 refine zh [(1,_),(71,_),(72,_)] (fun nn E H=> ∃(k:Nat),(k≤opts.length)∧(AscO 0 (opts.take k))∧nn=opts.length-k∧E= [(4,.val (.int .i64 (a0N 0 (opts.take k)))),(73,.val (.int .i64 (k:Int)))]∧H= [.blk B1 29 6 [.val (.int .i64 ty),.val (.int .i64 code),.val (.int .i64 id),roB tok,roO opts,roB pay]]) _ (⟨0,by omega,trivial,rfl,rfl,rfl⟩) ?_
 rintro nn E H ⟨k,h1,ha,rfl,rfl,rfl⟩
 dsimp only[cA,cN]
 refine zC (zq ?_)
 refine zR (zH (zn (zC ?_)))
 refine ym (fun h3=> ?_) (fun h3=> ?_)<;>(try simp only[vU]at h3)
 ·have hk:k<opts.length:=by omega
  refine yU (zn (zC (xb (zC (zq ?_)))))
  refine yf ?_
  refine yV ?_
  refine zd ?_
  intro B2
  refine za 0 (zH (zn (zC (zC (zq ?_)))))
  refine zt ?_
  refine zA ?_
  refine zb ?_
  refine zR ?_
  refine zb ?_
  refine zK ?_
  refine zu 82 ?_
  refine yy 83 ?_
  refine zG ?_
  refine zb ?_
  refine zK ?_
  refine zu 87 ?_
  refine yg 88 ?_
  refine yy 89 ?_
  refine zG (zH (zn ?_))
  refine ym (fun h4=> ?_) (fun h4=> ?_)<;>(try simp only[vU]at h4)
  ·have e:decide (ValM ⟨ty,code,id,tok,opts,pay⟩)=false:=by
    refine decide_eq_false fun hk'=> ?_
    obtain⟨⟨-, -,a1, -⟩, -⟩:=hk'
    have:=c0W a1 hk
    simp only at this
    omega
   refine zC (zq ?_)
   refine zc (zH (zn (y3 (xh ?_))))
   refine wg (xh ?_)
   refine AQ.loopR ?_
   refine wg (xh ?_)
   refine vm rfl rfl nS (⟨congrArg (fun z=>AV.val (.bool z)) e.symm,rfl⟩)
  have ha2:AscO 0 (opts.take (k+1)):=by
   rw[a0i Opt.none hk,d0Y]
   exact⟨ha,h4.1.1,h4.1.2,h4.2⟩
  have hl2:a0N 0 (opts.take (k+1))=(oat opts k).num:=by rw[a0i Opt.none hk,b0i]
  refine yU (zn (zq ?_))
  refine zt ?_
  refine zA ?_
  refine zc (zH (xA (zn (zq ?_))))
  refine zx ?_
  refine zb (zH ?_)
  refine zJ _ _ _ (by omega) (⟨k+1,by omega,ha2,rfl,by rw[hl2],rfl⟩)
 obtain rfl:k=opts.length:=by omega
 rw[List.take_length]at ha
 have hw:IntKind.i64.wrap ((tok.length:Int)+opts.length+pay.length)=(tok.length:Int)+opts.length+pay.length:=d0Z (by omega)
 refine wm ?_
 refine xY ?_
 refine wa ?_
 refine xq (zn (zC (zC (zq ?_))))
 refine zt ?_
 refine zA ?_
 refine yi ?_
 refine zb ?_
 refine zK ?_
 refine zu 99 ?_
 refine yg 100 ?_
 refine zK ?_
 refine zu 102 ?_
 refine yg 103 ?_
 refine AO.opG rfl rfl rfl (fun hp=>wP 101 rfl (by exact hp) (wP 104 rfl (by exact hp) zD)) ?_
 refine zK ?_
 refine zu 106 ?_
 refine yg 107 ?_
 refine AO.opG rfl rfl rfl (fun hp=>wP 105 rfl (by exact hp) (wP 108 rfl (by exact hp) zD)) ?_
 refine yy 109 ?_
 refine zN ?_
 refine zb ?_
 refine zK ?_
 refine zu 113 ?_
 refine xe 114 ?_
 refine wG 115 ?_
 refine zK ?_
 refine zu 117 ?_
 refine xF 118 ?_
 refine wI 116 ?_
 refine zG (zH (zn ?_))
 refine ym (fun h5=> ?_) (fun h5=> ?_)<;>(try simp only[vU]at h5)
 ·have e:decide (ValM ⟨ty,code,id,tok,opts,pay⟩)=false:=by
   refine decide_eq_false fun hk'=> ?_
   obtain⟨⟨-, -, -,a1,a3,a2⟩, -⟩:=hk'
   simp only at a1 a2 a3
   omega
  refine zC (zq ?_)
  refine zc (zH (zn (y3 (xh ?_))))
  refine vm rfl rfl nS (⟨congrArg (fun z=>AV.val (.bool z)) e.symm,rfl⟩)
 have hm:OkM ⟨ty,code,id,tok,opts,pay⟩:=by
  refine⟨⟨by simp only;omega,by simp only;omega,by simp only;omega,by simp only;omega,?_⟩,⟨by simp only;omega,by simp only;omega,by simp only;omega,by simp only;omega⟩,ha,?_,?_,by simp only;omega⟩
  ·rw[hq]at h2
   unfold h0y;simp only;omega
  ·simp only;omega
  simp only;omega
 have hl:=r0E hm
 refine yU (zn (zC (zq ?_)))
 refine zI ?_
 refine vO (xD rfl Tryz.func165 rfl rfl rfl (m0F ⟨ty,code,id,tok,opts,pay⟩ hm)) ?_
 refine zZ ?_
 refine vL ?_
 refine zc (zH (zn (y3 ?_)))
 have e:decide (ValM ⟨ty,code,id,tok,opts,pay⟩)=decide (((raw ⟨ty,code,id,tok,opts,pay⟩).length:Int)≤4096):=g0K (by simp[ValM,hm])
 refine vm rfl rfl nS (⟨congrArg (fun z=>AV.val (.bool z)) e.symm,rfl⟩)
theorem i0T (m:Msg):Sp Tryz.prog 120 [b0n m] [] (Is (.tup [roB (g0I m).1,.val (.int .i64 (g0I m).2)])):=by
 refine yH Tryz.func120 _ Tryz.ntmps120 (fun w0 R0=> ?_)
 refine zC (zq ?_)
 refine z9 ?_
 intro B1
 refine zc ?_
 refine zc (zH (zn (zC (zC (zq ?_)))))
 refine zI ?_
 refine vO (xD rfl Tryz.func164 rfl rfl rfl (f0n m)) ?_
 refine xo (zH (zn ?_))
 refine ym (fun h=> ?_) (fun h=> ?_)<;>(try simp only[vU]at h)
 ·have e:g0I m=([],1):=n0C h
  refine zC (zq ?_)
  refine zc ?_
  refine zc (zH (zn (y3 (xh ?_))))
  refine x9 yP yu (⟨congrArg (fun z:List UInt8×Int=>AV.tup [roB z.1,.val (.int .i64 z.2)]) e.symm,rfl⟩)
 have hm:OkM m:=h.1
 have e:g0I m=(raw m,0):=n0B h
 refine yU (zn (zC (zq ?_)))
 refine zI ?_
 refine vO (xD rfl Tryz.func165 rfl rfl rfl (m0F m hm)) ?_
 refine zc ?_
 refine zc (zH (zn (y3 ?_)))
 refine AQ.ret2 rfl rfl rfl nS (⟨congrArg (fun z:List UInt8×Int=>AV.tup [roB z.1,.val (.int .i64 z.2)]) e.symm,rfl⟩)
theorem e0Z (l:List UInt8)(hl:l.length≤140737488355328):Sp Tryz.prog 138 [roB l] [] (Is (roB l)):=by
 refine yH Tryz.func138 _ Tryz.ntmps138 (fun w0 R0=> ?_)
 refine zC (zq ?_)
 refine zc (zH (zn (zC (zC (zq ?_)))))
 refine zb ?_
 refine AO.opN (O.eqlNil rfl rfl rfl) rfl rfl rfl ?_
 rintro _ _ ⟨c,rfl,rfl,hnil⟩
 simp only[cA,cN]
 refine zH (zn ?_)
 refine ym (fun h=> ?_) (fun h=> ?_)
 ·obtain rfl:l= []:=List.eq_nil_of_length_eq_zero (hnil (by simp[h]))
  refine zC (zq ?_)
  refine zc (zH (zn (y3 (xh ?_))))
  refine AQ.g ?_
  refine G.nilRo 2 rfl ?_
  refine AQ.u ?_
  refine yw
 refine yU (zn (zC (zq ?_)))
 refine vS (O.buildSlice0 rfl) ?_
 intro V hV
 refine zb ?_
 refine zF 0 ?_
 intro V hV
 refine zc (zH (zn (y3 ?_)))
 refine AQ.g ?_
 refine yL 0 [2] ?_
 refine AQ.u ?_
 dsimp only[List.map,List.eraseIdx,cA,cN]
 refine vm rfl rfl nS (⟨by simp[roB],rfl⟩)
def SmM (m:Msg):Prop:=m.tok.length≤140737488355328∧m.pay.length≤140737488355328∧m.opts.length≤1000000∧ ∀o∈m.opts,o.val.length≤140737488355328
theorem SmM.at {m:Msg}(h:SmM m){k:Nat}(hk:k<m.opts.length):(oat m.opts k).val.length≤140737488355328:=h.2.2.2 _ (b0d _ hk)
theorem s0w (m:Msg)(h:SmM m):Sp Tryz.prog 38 [b0n m] [] (Is (b0n m)):=by
 have hat:=fun k=>SmM.at h (k:=k)
 obtain⟨h1,h2,h3, -⟩:=h
 refine yH Tryz.func38 _ Tryz.ntmps38 (fun w0 R0=> ?_)
 refine zC (zq ?_)
 refine z9 ?_
 intro B1
 refine zd ?_
 intro B2
 refine zH (zn (zC ?_))
 refine yo 7 ?_
 simp only[cT,cZ,cD,cO]
 refine yn ?_
 refine zO ?_
 refine wb ?_
 refine yn ?_
 refine zO ?_
 refine wb ?_
 refine yn ?_
 refine vf ?_
 simp only[a0g,cN,cA,cP]
 rintro _ _ ⟨V3,rfl,hV3,rfl⟩
 rintro _ _ ⟨V4,rfl,hV4,rfl⟩
 simp only[cA,cN]
 refine AO.g ?_
 refine yL 1 [8] ?_
 refine AO.u ?_
 dsimp only[List.map,List.eraseIdx,cA,cN]
 refine AO.g ?_
 refine yL 0 [11] ?_
 refine AO.u ?_
 dsimp only[List.map,List.eraseIdx,cA,cN]
 refine za 1 ?_
 refine zt ?_
 refine za 1 (zH (zn (zC (zq ?_))))
 refine zc (zH (zn (zC (zC (zq ?_)))))
 refine zt ?_
 refine zp ?_
 refine zZ ?_
 refine zb (zH (zn (xb ?_)))
 refine AW.g ?_
 refine G.nilRow 96 2 ?_
 refine AW.u ?_
 refine zh [(1,_),(2,_),(15,_),(16,_)] (fun nn E H=> ∃(k:Nat) (V:Value),(k≤m.opts.length)∧(V.oneCell'=true)∧nn=m.opts.length-k∧E= [(3,.val V),(17,.val (.int .i64 (k:Int)))]∧H= [.row V 96 2 k (a0C (m.opts.take k)),.blk B2 29 6 [.val (.int .i64 0),.val (.int .i64 0),.val (.int .i64 0),.val (.slice none 0 0),.val (.slice none 0 0),.val (.slice none 0 0)],.blk B1 29 6 [.val (.int .i64 m.ty),.val (.int .i64 m.code),.val (.int .i64 m.id),roB m.tok,roO m.opts,roB m.pay]]) _ (⟨0,_,by omega,rfl,rfl,rfl,rfl⟩) ?_
 rintro nn E H ⟨k,V,h4,hV,rfl,rfl,rfl⟩
 dsimp only[cA,cN]
 refine zC (zq ?_)
 refine zR (zH (zn (zC ?_)))
 refine ym (fun h5=> ?_) (fun h5=> ?_)<;>(try simp only[vU]at h5)
 ·have hk:k<m.opts.length:=by omega
  have hv:=hat k hk
  have hsc:a0C (m.opts.take (k+1))=a0C (m.opts.take k)++[.val (.int .i64 (oat m.opts k).num),roB (oat m.opts k).val]:=by rw[a0i Opt.none hk,a0M]
  refine yU (zn (zC (xb (zC (zq ?_)))))
  refine yf ?_
  refine yV ?_
  refine zd ?_
  intro B5
  refine za 0 (zH (zn ?_))
  refine AW.regionM [(0,false),(1,false),(2,false),(3,false),(4,false),(5,true),(6,false),(7,false),(8,true),(9,true)] (by kernel_rfl) (by kernel_rfl) (by exact(by exact c0Y 3 1 rfl rfl a0c)) ?_
  dsimp only[List.eraseIdx]
  refine y0 ?_
  refine xl ?_
  refine wU ?_
  refine xl ?_
  refine wU ?_
  refine xU _ (fun w0 R0=> ?_)
  refine yA ?_
  intro V6 hV6
  refine AO.g ?_
  refine yL 0 [26] ?_
  refine AO.u ?_
  dsimp only[List.map,List.eraseIdx,cA,cN]
  refine AM.ok ?_
  dsimp only[a0w]
  refine vQ rfl yb ?_
  refine xp ?_
  refine xU _ (fun w0 R0=> ?_)
  refine zB 0 ?_
  intro V7 hV7
  refine AM.ok ?_
  dsimp only[a0w]
  refine xU _ (fun w0 R0=> ?_)
  refine zc ?_
  refine AM.ok ?_
  dsimp only[a0w]
  refine vn ?_
  dsimp only[cA,cN]
  refine xA (zn (zq ?_))
  refine zx ?_
  refine zb (zH ?_)
  refine xv _ _ _ (by omega) (⟨k+1,_,by omega,‹_›,rfl,rfl,by rw[hsc]⟩)
 obtain rfl:k=m.opts.length:=by omega
 rw[List.take_length]
 refine AW.g ?_
 refine yj 0 [3] ?_
 refine AW.u ?_
 try dsimp only[List.map,List.eraseIdx,cA,cN]
 refine wm ?_
 refine xY ?_
 refine wa ?_
 refine xq (zn (zC (zq ?_)))
 refine zb ?_
 refine zt ?_
 refine za 1 (zH (zn (zC (zq ?_))))
 refine zw ?_
 refine za 0 (zH (zn (y3 ?_)))
 refine AQ.retCell rfl rfl (by repeat(exact List.Mem.head _)) (by rfl) rfl nS (⟨rfl,rfl⟩)
def bsA (vs:List (List UInt8)):List AV:=vs.map roB
def t0q (vs:List (List UInt8)):AV:= .ro false vs.length (bsA vs)
def c0a (os:List Opt)(n:Int):List (List UInt8):=(os.filter fun o=>o.num==n).map Opt.val
theorem f0V (os:List Opt)(o:Opt)(n:Int):c0a (os++[o]) n=if o.num=n then c0a os n++[o.val]else c0a os n:=by
 unfold c0a
 rw[List.filter_append,List.map_append]
 by_cases h:o.num=n<;>simp[h]
theorem f0a (vs:List (List UInt8))(v:List UInt8):bsA (vs++[v])=bsA vs++[roB v]:=by simp[bsA]
@[simp] theorem v0v (vs:List (List UInt8)):(bsA vs).length=vs.length:=by simp[bsA]
abbrev vat (vs:List (List UInt8))(k:Nat):List UInt8:=vs.getD k []
theorem f0Q {vs:List (List UInt8)}{k:Nat}(h:k<vs.length){j:Nat}(hj:j=k):(bsA vs)[j]? =some (roB (vat vs k)):=by
 subst hj;simp[bsA,h,vat]
theorem d0W (os:List Opt)(n:Int):(c0a os n).length≤os.length:=by
 unfold c0a;rw[List.length_map];exact List.length_filter_le _ _
theorem q0L (m:Msg)(n:Int)(h3:m.opts.length≤1000000)(hat: ∀o∈m.opts,o.val.length≤140737488355328):Sp Tryz.prog 71 [b0n m,.val (.int .i64 n)] [] (Is (t0q (c0a m.opts n))):=by
 refine yH Tryz.func71 _ Tryz.ntmps71 (fun w0 R0=> ?_)
 refine zC (zq ?_)
 refine z9 ?_
 intro B1
 refine zc (zH (zn (zC (zq ?_))))
 refine zc (zH (zn (zC (zC (zq ?_)))))
 refine zt ?_
 refine zA ?_
 refine zZ ?_
 refine zb (zH (zn (xb ?_)))
 refine AW.g ?_
 refine G.nilRow 22 1 ?_
 refine AW.u ?_
 refine zh [(1,_),(9,_),(10,_)] (fun nn E H=> ∃(k:Nat) (V:Value),(k≤m.opts.length)∧(V.oneCell'=true)∧nn=m.opts.length-k∧E= [(5,.val V),(11,.val (.int .i64 (k:Int)))]∧H= [.row V 22 1 (c0a (m.opts.take k) n).length (bsA (c0a (m.opts.take k) n)),.blk B1 29 6 [.val (.int .i64 m.ty),.val (.int .i64 m.code),.val (.int .i64 m.id),roB m.tok,roO m.opts,roB m.pay]]) _ (⟨0,_,by omega,rfl,rfl,rfl,rfl⟩) ?_
 rintro nn E H ⟨k,V,h4,hV,rfl,rfl,rfl⟩
 dsimp only[cA,cN]
 have hl:=d0W (m.opts.take k) n
 rw[List.length_take]at hl
 refine zC (zq ?_)
 refine zR (zH (zn (zC ?_)))
 refine ym (fun h5=> ?_) (fun h5=> ?_)<;>(try simp only[vU]at h5)
 ·have hk:k<m.opts.length:=by omega
  have hv:(oat m.opts k).val.length≤140737488355328:=hat _ (b0d Opt.none hk)
  have hsc:=f0V (m.opts.take k) (oat m.opts k) n
  rw[←a0i Opt.none hk]at hsc
  refine yU (zn (zC (xb (zC (zq ?_)))))
  refine yf ?_
  refine yV ?_
  refine zd ?_
  intro B2
  refine za 0 (zH (zn (zC (zq ?_))))
  refine zt ?_
  refine zA ?_
  refine zb ?_
  refine yi (zH (zn ?_))
  refine ym (fun h6=> ?_) (fun h6=> ?_)<;>(try simp only[vU]at h6)
  ·rw[if_pos h6]at hsc
   refine zq ?_
   refine zb ?_
   refine zt ?_
   refine zA ?_
   refine yA ?_
   intro V3 hV3
   refine AO.g ?_
   refine yL 0 [22] ?_
   refine AO.u ?_
   dsimp only[List.map,List.eraseIdx,cA,cN]
   refine zU ?_
   intro B4
   refine AO.g ?_
   refine yr 0 23 ?_
   refine wH 23 ?_
   refine AO.u ?_
   dsimp only[List.eraseIdx]
   refine zB 1 ?_
   intro V5 hV5
   refine zc (zH (xA (zn (zq ?_))))
   refine zx ?_
   refine zb (zH ?_)
   refine zJ _ _ _ (by omega) (⟨k+1,_,by omega,‹_›,rfl,rfl,by rw[hsc,f0a,cH]⟩)
  rw[if_neg h6]at hsc
  refine yU (xA (zn (zq ?_)))
  refine zx ?_
  refine zb (zH ?_)
  refine zJ _ _ _ (by omega) (⟨k+1,_,by omega,hV,rfl,rfl,by rw[hsc]⟩)
 obtain rfl:k=m.opts.length:=by omega
 rw[List.take_length]
 refine AW.g ?_
 refine yj 0 [5] ?_
 refine AW.u ?_
 try dsimp only[List.map,List.eraseIdx,cA,cN]
 refine wm ?_
 refine xY ?_
 refine wa ?_
 refine xq (zn (zC (zq ?_)))
 refine zb ?_
 refine zc (zH (zn (y3 ?_)))
 refine yw
theorem s0H (m:Msg)(n:Int)(h3:m.opts.length≤1000000)(hat: ∀o∈m.opts,o.val.length≤140737488355328):Sp Tryz.prog 71 [b0n m,.val (.int .i64 n)] [] (b0e 22 1 (c0a m.opts n).length (bsA (c0a m.opts n))):=by
 refine yH Tryz.func71 _ Tryz.ntmps71 (fun w0 R0=> ?_)
 refine zC (zq ?_)
 refine z9 ?_
 intro B1
 refine zc (zH (zn (zC (zq ?_))))
 refine zc (zH (zn (zC (zC (zq ?_)))))
 refine zt ?_
 refine zA ?_
 refine zZ ?_
 refine zb (zH (zn (xb ?_)))
 refine AW.g ?_
 refine G.nilRow 22 1 ?_
 refine AW.u ?_
 refine zh [(1,_),(9,_),(10,_)] (fun nn E H=> ∃(k:Nat) (V:Value),(k≤m.opts.length)∧(V.oneCell'=true)∧nn=m.opts.length-k∧E= [(5,.val V),(11,.val (.int .i64 (k:Int)))]∧H= [.row V 22 1 (c0a (m.opts.take k) n).length (bsA (c0a (m.opts.take k) n)),.blk B1 29 6 [.val (.int .i64 m.ty),.val (.int .i64 m.code),.val (.int .i64 m.id),roB m.tok,roO m.opts,roB m.pay]]) _ (⟨0,_,by omega,rfl,rfl,rfl,rfl⟩) ?_
 rintro nn E H ⟨k,V,h4,hV,rfl,rfl,rfl⟩
 dsimp only[cA,cN]
 have hl:=d0W (m.opts.take k) n
 rw[List.length_take]at hl
 refine zC (zq ?_)
 refine zR (zH (zn (zC ?_)))
 refine ym (fun h5=> ?_) (fun h5=> ?_)<;>(try simp only[vU]at h5)
 ·have hk:k<m.opts.length:=by omega
  have hv:(oat m.opts k).val.length≤140737488355328:=hat _ (b0d Opt.none hk)
  have hsc:=f0V (m.opts.take k) (oat m.opts k) n
  rw[←a0i Opt.none hk]at hsc
  refine yU (zn (zC (xb (zC (zq ?_)))))
  refine yf ?_
  refine yV ?_
  refine zd ?_
  intro B2
  refine za 0 (zH (zn (zC (zq ?_))))
  refine zt ?_
  refine zA ?_
  refine zb ?_
  refine yi (zH (zn ?_))
  refine ym (fun h6=> ?_) (fun h6=> ?_)<;>(try simp only[vU]at h6)
  ·rw[if_pos h6]at hsc
   refine zq ?_
   refine zb ?_
   refine zt ?_
   refine zA ?_
   refine yA ?_
   intro V3 hV3
   refine AO.g ?_
   refine yL 0 [22] ?_
   refine AO.u ?_
   dsimp only[List.map,List.eraseIdx,cA,cN]
   refine zU ?_
   intro B4
   refine AO.g ?_
   refine yr 0 23 ?_
   refine wH 23 ?_
   refine AO.u ?_
   dsimp only[List.eraseIdx]
   refine zB 1 ?_
   intro V5 hV5
   refine zc (zH (xA (zn (zq ?_))))
   refine zx ?_
   refine zb (zH ?_)
   refine zJ _ _ _ (by omega) (⟨k+1,_,by omega,‹_›,rfl,rfl,by rw[hsc,f0a,cH]⟩)
  rw[if_neg h6]at hsc
  refine yU (xA (zn (zq ?_)))
  refine zx ?_
  refine zb (zH ?_)
  refine zJ _ _ _ (by omega) (⟨k+1,_,by omega,hV,rfl,rfl,by rw[hsc]⟩)
 obtain rfl:k=m.opts.length:=by omega
 rw[List.take_length]
 refine wm ?_
 refine xY ?_
 refine wa ?_
 refine xq (zn (zC (zq ?_)))
 refine zb ?_
 refine zc (zH (zn (y3 ?_)))
 refine vm rfl rfl ⟨_,by repeat(first|exact List.Sublist.slnil|refine List.Sublist.cons_cons _ ?_|refine List.Sublist.cons _ ?_),List.Perm.refl _⟩ (⟨_,rfl,hV,rfl⟩)
theorem q0W (m:Msg)(os:List Opt)(h1:m.tok.length≤140737488355328)(h2:m.pay.length≤140737488355328)(h3:os.length≤1000000)(hat: ∀o∈os,o.val.length≤140737488355328):
  Sp Tryz.prog 75 [b0n m,roO os] [] (Is (b0n ⟨m.ty,m.code,m.id,m.tok,os,m.pay⟩)):=by
 refine yH Tryz.func75 _ Tryz.ntmps75 (fun w0 R0=> ?_)
 refine zC (zq ?_)
 refine z9 ?_
 intro B1
 refine zd ?_
 intro B2
 refine zH (zn (zC ?_))
 refine yo 7 ?_
 simp only[cT,cZ,cD,cO]
 refine yn ?_
 refine zO ?_
 refine wb ?_
 refine yn ?_
 refine zO ?_
 refine wb ?_
 refine yn ?_
 refine vf ?_
 simp only[a0g,cN,cA,cP]
 rintro _ _ ⟨V3,rfl,hV3,rfl⟩
 rintro _ _ ⟨V4,rfl,hV4,rfl⟩
 simp only[cA,cN]
 refine AO.g ?_
 refine yL 1 [10] ?_
 refine AO.u ?_
 dsimp only[List.map,List.eraseIdx,cA,cN]
 refine AO.g ?_
 refine yL 0 [13] ?_
 refine AO.u ?_
 dsimp only[List.map,List.eraseIdx,cA,cN]
 refine za 1 ?_
 refine zt ?_
 refine za 1 (zH (zn (zC (zq ?_))))
 refine zc (zH (zn (zC (zC (zq ?_)))))
 refine zb ?_
 refine zZ ?_
 refine zb (zH (zn (xb ?_)))
 refine AW.g ?_
 refine G.nilRow 96 2 ?_
 refine AW.u ?_
 refine zh [(2,_),(4,_),(16,_),(17,_)] (fun nn E H=> ∃(k:Nat) (V:Value),(k≤os.length)∧(V.oneCell'=true)∧nn=os.length-k∧E= [(5,.val V),(18,.val (.int .i64 (k:Int)))]∧H= [.row V 96 2 k (a0C (os.take k)),.blk B2 29 6 [.val (.int .i64 0),.val (.int .i64 0),.val (.int .i64 0),.val (.slice none 0 0),.val (.slice none 0 0),.val (.slice none 0 0)],.blk B1 29 6 [.val (.int .i64 m.ty),.val (.int .i64 m.code),.val (.int .i64 m.id),roB m.tok,roO m.opts,roB m.pay]]) _ (⟨0,_,by omega,rfl,rfl,rfl,rfl⟩) ?_
 rintro nn E H ⟨k,V,h4,hV,rfl,rfl,rfl⟩
 dsimp only[cA,cN]
 refine zC (zq ?_)
 refine zR (zH (zn (zC ?_)))
 refine ym (fun h5=> ?_) (fun h5=> ?_)<;>(try simp only[vU]at h5)
 ·have hk:k<os.length:=by omega
  have hv:(oat os k).val.length≤140737488355328:=hat _ (b0d Opt.none hk)
  have hsc:a0C (os.take (k+1))=a0C (os.take k)++[.val (.int .i64 (oat os k).num),roB (oat os k).val]:=by rw[a0i Opt.none hk,a0M]
  refine yU (zn (zC (xb (zC (zq ?_)))))
  refine yf ?_
  refine yV ?_
  refine zd ?_
  intro B5
  refine za 0 (zH (zn ?_))
  refine AW.regionM [(0,false),(1,false),(2,false),(3,false),(4,false),(5,true),(6,false),(7,false),(8,true),(9,true)] (by kernel_rfl) (by kernel_rfl) (by exact(by exact c0Y 5 1 rfl rfl a0c)) ?_
  dsimp only[List.eraseIdx]
  refine y0 ?_
  refine xl ?_
  refine wU ?_
  refine xl ?_
  refine wU ?_
  refine xU _ (fun w0 R0=> ?_)
  refine yA ?_
  intro V6 hV6
  refine AO.g ?_
  refine yL 0 [27] ?_
  refine AO.u ?_
  dsimp only[List.map,List.eraseIdx,cA,cN]
  refine AM.ok ?_
  dsimp only[a0w]
  refine vQ rfl yb ?_
  refine xp ?_
  refine xU _ (fun w0 R0=> ?_)
  refine zB 0 ?_
  intro V7 hV7
  refine AM.ok ?_
  dsimp only[a0w]
  refine xU _ (fun w0 R0=> ?_)
  refine zc ?_
  refine AM.ok ?_
  dsimp only[a0w]
  refine vn ?_
  dsimp only[cA,cN]
  refine xA (zn (zq ?_))
  refine zx ?_
  refine zb (zH ?_)
  refine xv _ _ _ (by omega) (⟨k+1,_,by omega,‹_›,rfl,rfl,by rw[hsc]⟩)
 obtain rfl:k=os.length:=by omega
 rw[List.take_length]
 refine AW.g ?_
 refine yj 0 [5] ?_
 refine AW.u ?_
 try dsimp only[List.map,List.eraseIdx,cA,cN]
 refine wm ?_
 refine xY ?_
 refine wa ?_
 refine xq (zn (zC (zq ?_)))
 refine zb ?_
 refine zt ?_
 refine za 1 (zH (zn (zC (zq ?_))))
 refine zw ?_
 refine za 0 (zH (zn (y3 ?_)))
 refine AQ.retCell rfl rfl (by repeat(exact List.Mem.head _)) (by(dsimp only[List.set,cA,cN,List.take,List.drop];rfl)) rfl nS (⟨rfl,rfl⟩)
theorem q0O {kid:List UInt8}{piv:Int}(h:7<kid.length):k0G kid piv=([],1):=if_pos h
theorem q0N {kid:List UInt8}{piv:Int}(h: ¬7<kid.length)(h2:piv<0∨1099511627775<piv):k0G kid piv=([],8):=(if_neg h).trans (if_pos h2)
theorem q0M {kid:List UInt8}{piv:Int}(h: ¬7<kid.length)(h2: ¬(piv<0∨1099511627775<piv)):k0G kid piv=(s0L kid (b0N piv),0):=(if_neg h).trans (if_neg h2)
theorem j0a (kid:List UInt8)(piv:Int):Sp Tryz.prog 67 [roB kid,.val (.int .i64 piv)] [] (Is (s0R (k0G kid piv))):=by
 refine yH Tryz.func67 _ Tryz.ntmps67 (fun w0 R0=> ?_)
 refine zC (zq ?_)
 refine zc ?_
 refine zc (zH (zn (zC (zC (zq ?_)))))
 refine zb ?_
 refine zZ ?_
 refine yN (zH (zn ?_))
 refine ym (fun h1=> ?_) (fun h1=> ?_)<;>(try simp only[vU]at h1)
 ·rw[q0O (by omega)]
  refine zC (zq ?_)
  refine zc ?_
  refine zc (zH (zn (y3 (xh ?_))))
  refine x9 yP yu (⟨rfl,rfl⟩)
 have hk:kid.length≤7:=by omega
 refine yU (zn (zC (zC (zq ?_))))
 refine zb ?_
 refine zR ?_
 refine zb ?_
 refine yl ?_
 refine yy 13 ?_
 refine zG (zH (zn ?_))
 refine ym (fun h2=> ?_) (fun h2=> ?_)<;>(try simp only[vU]at h2)
 ·rw[q0N (by omega) (by omega)]
  refine zC (zq ?_)
  refine zc ?_
  refine zc (zH (zn (y3 (xh ?_))))
  refine x9 yP yu (⟨rfl,rfl⟩)
 rw[q0M (by omega) (by omega)]
 have hpl:=d0a piv
 have hxl:=f0b hk hpl
 have hxe:=q0c (kid:=kid) (pb:=b0N piv) (by omega) (by omega)
 have hoe:=q0b hk hpl
 have hol:(s0L kid (b0N piv)).length≤100000:=by
  rw[←hoe,n0A (by show 3<24;omega),g0c,b0g (by show 3<24;omega)]
  simp only[q0P,List.map_cons,List.map_nil,List.flatten_cons,List.flatten_nil,cP,cH,cL,cE]
  rw[e0J (k:=3) (m:=3) (b:=h0A) rfl (.inr rfl) (by decide),e0J (k:=2) (m:=2) rfl (.inl rfl) (by simp),e0J (k:=2) (m:=2) rfl (.inl rfl) hxl,b0g hxl]
  simp[b0g,h0A];omega
 have hl1:=d0J 0 [.mk 0 ((10:Nat):Int) [] []] (by simp) (fun y hy=>by obtain rfl:=List.mem_singleton.1 hy;exact a0E (by simp))
 have hl5:=d0J 1 (s0K kid (b0N piv)) (by show 5≤1000;omega) (by
  intro y hy
  simp only[s0K,List.mem_cons,List.not_mem_nil,or_false]at hy
  rcases hy with rfl|rfl|rfl|rfl|rfl
  ·exact a0E (by simp)
  ·exact⟨by simp,by simp,fun z hz=>by obtain rfl:=List.mem_singleton.1 hz;exact a0E (by simp)⟩
  ·exact a0E (by omega)
  ·exact a0E (by omega)
  exact a0E (by simp))
 have hl3:=d0J 0 (q0P (i0E kid (b0N piv))) (by show 3≤1000;omega) (by
  intro y hy
  simp only[q0P,List.mem_cons,List.not_mem_nil,or_false]at hy
  rcases hy with rfl|rfl|rfl
  ·exact a0E (by decide)
  ·exact a0E (by simp)
  exact a0E (by omega))
 have hr5:=f0s 2 (.mk 4 0 [] (s0K kid (b0N piv))) (.inr ⟨rfl,rfl,rfl,by show 5<24;omega,by
  intro y hy
  simp only[s0K,List.mem_cons,List.not_mem_nil,or_false]at hy
  rcases hy with rfl|rfl|rfl|rfl|rfl
  ·exact .inl ⟨rfl,.inl ⟨.inl rfl,by omega,by omega,rfl⟩⟩
  ·exact .inr ⟨rfl,rfl,rfl,by simp,fun z hz=>by obtain rfl:=List.mem_singleton.1 hz;exact⟨rfl,.inl ⟨.inl rfl,by omega,by omega,rfl⟩⟩⟩
  ·exact .inl ⟨rfl,.inr ⟨.inl rfl,rfl,by omega⟩⟩
  ·exact .inl ⟨rfl,.inr ⟨.inl rfl,rfl,by omega⟩⟩
  exact .inl ⟨rfl,.inr ⟨.inl rfl,rfl,by simp⟩⟩⟩) (by rw[hxe];omega)
 have hr3:=f0s 1 (.mk 4 0 [] (q0P (i0E kid (b0N piv)))) (.inr ⟨rfl,rfl,rfl,by show 3<24;omega,by
  intro y hy
  simp only[q0P,List.mem_cons,List.not_mem_nil,or_false]at hy
  rcases hy with rfl|rfl|rfl
  ·exact⟨rfl,.inr ⟨.inr rfl,rfl,by decide⟩⟩
  ·exact⟨rfl,.inr ⟨.inl rfl,rfl,by simp⟩⟩
  exact⟨rfl,.inr ⟨.inl rfl,rfl,hxl⟩⟩⟩) (by rw[hoe];exact hol)
 unfold g0m at hr5 hr3
 rw[hxe]at hr5
 rw[hoe]at hr3
 generalize i0E kid (b0N piv)=x at*
 generalize s0L kid (b0N piv)=y at*
 rw[d0f]at hl1 hl5 hl3 hr5 hr3
 simp only[s0K,q0P,d0O,e0r,d0f,cP,cA,cN,cL,cE,Nat.zero_add,Nat.reduceAdd]at hl1 hl5 hl3 hr5 hr3
 refine yU (zn (zC (zq ?_)))
 refine vO (xD rfl Tryz.func124 rfl rfl rfl (e0f _ ⟨by omega,by omega⟩)) ?_
 refine vO (xD rfl Tryz.func124 rfl rfl rfl (e0f _ ⟨by omega,by omega⟩)) ?_
 refine zU ?_
 intro B1
 refine AO.g ?_
 refine yr 0 18 ?_
 refine wH 18 ?_
 refine AO.u ?_
 dsimp only[List.eraseIdx]
 refine vO (xD rfl Tryz.func123 rfl rfl rfl hl1) ?_
 refine zb ?_
 refine vO (xD rfl Tryz.func125 rfl rfl rfl (c0K _ (by omega))) ?_
 refine zb ?_
 refine vO (xD rfl Tryz.func74 rfl rfl rfl (h0R _)) ?_
 refine vO (xD rfl Tryz.func125 rfl rfl rfl (c0K _ (by omega))) ?_
 refine vO (O.callC rfl Tryz.func125 rfl rfl rfl (c0K [] (by simp)) (by(repeat(first|exact CoeL.nil|refine CoeL.cons Coe.nil ?_));done)) ?_
 refine xH ?_
 intro B2
 refine AO.g ?_
 refine yr 0 26 ?_
 refine wH 26 ?_
 refine AO.u ?_
 dsimp only[List.eraseIdx]
 refine vO (xD rfl Tryz.func123 rfl rfl rfl hl5) ?_
 refine vO (xD rfl Tryz.func122 rfl rfl rfl hr5) ?_
 refine zc (zH (zn (zC (zq ?_))))
 refine vO (xD rfl Tryz.func126 rfl rfl rfl o0B) ?_
 refine vO (O.callC rfl Tryz.func125 rfl rfl rfl (c0K [] (by simp)) (by(repeat(first|exact CoeL.nil|refine CoeL.cons Coe.nil ?_));done)) ?_
 refine zb ?_
 refine vO (xD rfl Tryz.func125 rfl rfl rfl (c0K _ (by omega))) ?_
 refine xH ?_
 intro B3
 refine AO.g ?_
 refine yr 0 33 ?_
 refine wH 33 ?_
 refine AO.u ?_
 dsimp only[List.eraseIdx]
 refine vO (xD rfl Tryz.func123 rfl rfl rfl hl3) ?_
 refine vO (xD rfl Tryz.func122 rfl rfl rfl hr3) ?_
 refine zc ?_
 refine zc (zH (zn (y3 ?_)))
 refine xG
theorem e0M (k n:Int)(hk:0≤k∧k≤7)(hn:0≤n∧n<24):Sp Tryz.prog 151 [.val (.int .u8 k),.val (.int .u64 n)] [] (b0e 5 1 1 (a0a [u8 (32*k+n)])):=by
 have e:k*32+n=((u8 (32*k+n)).toNat:Int):=by rw[a0I (by omega)];omega
 have e2:a0e (a0t 1 (Value.int IntKind.u8 0)) (0*1) (AV.val (Value.int IntKind.u8 (k*32+n))).cells=a0a [u8 (32*k+n)]:=by
  show [AV.val (.int .u8 (k*32+n))]= [AV.val (.int .u8 ((u8 (32*k+n)).toNat:Int))]
  rw[←e]
 refine yH Tryz.func151 _ Tryz.ntmps151 (fun w0 R0=> ?_)
 refine zC (zq ?_)
 refine zc (zH (zn (zC (zq ?_))))
 refine zb ?_
 refine vO (O.shlK 5 32 rfl rfl rfl rfl (by rfl) (by exact wU8 (by omega))) ?_
 refine zc (zH (zn (zC (xb (zC (zq ?_))))))
 refine zb ?_
 refine vO (O.lss rfl rfl rfl (by exact n0X (by omega))) ?_
 refine zc (zH (zn ?_))
 refine AW.condT rfl (zC (zq ?_))
 refine zb ?_
 refine zb ?_
 refine vO (O.conv rfl rfl (by exact wU8 (by omega))) ?_
 refine vO (O.or_ rfl rfl rfl (v0O 5 (m:=32) (by decide) (by omega) (by omega))) ?_
 refine zU ?_
 intro B1
 refine zc (zH (zn (y3 ?_)))
 refine wg (xh ?_)
 refine AQ.g ?_
 refine G.closeRow (n:=1) (cap:=1) 0 rfl rfl rfl (Nat.le_refl _) (by(unfold maxLen;omega)) ?_
 refine AQ.u ?_
 dsimp only[List.set]
 rw[e2]
 refine vm rfl rfl ⟨_,by repeat(first|exact List.Sublist.slnil|refine List.Sublist.cons_cons _ ?_),List.Perm.refl _⟩ (⟨_,rfl,rfl,rfl⟩)
theorem l0K (n:Nat)(hn:n<24):Sp Tryz.prog 110 [.val (.int .i64 (n:Int))] [] (Is (roB (e0B n))):=by
 rw[e0B,b0g hn,show UInt8.ofNat (32*0+n)=u8 (32*0+(n:Int)) by rw[show 32*0+(n:Int)=((32*0+n:Nat):Int) by omega,e0c]]
 refine yH Tryz.func110 _ Tryz.ntmps110 (fun w0 R0=> ?_)
 refine zC (zq ?_)
 refine zc (zH (zn (zC (zC (zq ?_)))))
 refine zb ?_
 refine vO (O.lss rfl rfl rfl (by exact c0p (by omega))) (zH (zn ?_))
 refine AW.condF rfl (yU (zn (zC (zq ?_))))
 refine zb ?_
 refine wd ?_
 refine vS (xD rfl Tryz.func151 rfl rfl rfl (e0M _ _ ⟨by omega,by omega⟩ ⟨by omega,by omega⟩)) ?_
 intro V1 hV1
 refine zc (zH (zn (y3 ?_)))
 refine AQ.g ?_
 refine yj 0 [2] ?_
 refine AQ.u ?_
 try dsimp only[List.map,List.eraseIdx,cA,cN]
 refine yw
theorem f0e (b:List UInt8)(hb:b.length<24):Sp Tryz.prog 111 [roB b] [] (Is (roB (c0k b))):=by
 have e1:a0a [u8 (32*2+(b.length:Int))]++a0a b=a0a (c0k b):=by
  rw[c0k,b0g hb,show u8 (32*2+(b.length:Int))=UInt8.ofNat (32*2+b.length) by rw[show 32*2+(b.length:Int)=((32*2+b.length:Nat):Int) by omega,e0c]];rfl
 have e2:1+b.length=(c0k b).length:=by rw[c0k,b0g hb,cH];rfl
 refine yH Tryz.func111 _ Tryz.ntmps111 (fun w0 R0=> ?_)
 refine zC (zq ?_)
 refine zc (zH (zn (zC (zq ?_))))
 refine zb ?_
 refine zZ ?_
 refine wd ?_
 refine vS (xD rfl Tryz.func151 rfl rfl rfl (e0M _ _ ⟨by omega,by omega⟩ ⟨by omega,by omega⟩)) ?_
 intro V1 hV1
 refine zb ?_
 refine zF 0 ?_
 intro V2 hV2
 refine zc (zH (zn (y3 ?_)))
 rw[e1,e2]
 refine AQ.g ?_
 refine yj 0 [2] ?_
 refine AQ.u ?_
 try dsimp only[List.map,List.eraseIdx,cA,cN]
 refine yw
theorem q0V:Sp Tryz.prog 113 [.val (.string ⟨#[69,110,99,114,121,112,116,48]⟩)] [] (Is (roB (j0H h0A))):=by
 have e1:a0a [u8 (32*3+8)]++a0a h0A=a0a (j0H h0A):=rfl
 have z1:(⟨#[69,110,99,114,121,112,116,48]⟩:ByteArray).size=8:=rfl
 have z2:(⟨#[69,110,99,114,121,112,116,48]⟩:ByteArray).data.toList.length=8:=rfl
 have z3:(⟨#[69,110,99,114,121,112,116,48]⟩:ByteArray).toList.length=8:=by decide +kernel
 refine yH Tryz.func113 _ Tryz.ntmps113 (fun w0 R0=> ?_)
 refine zC (zq ?_)
 refine zc (zH (zn (zC (zq ?_))))
 refine zb ?_
 refine vO (O.lenS rfl rfl) ?_
 refine wd ?_
 refine vS (xD rfl Tryz.func151 rfl rfl rfl (e0M 3 8 ⟨by omega,by omega⟩ ⟨by omega,by omega⟩)) ?_
 intro V1 hV1
 refine zb ?_
 refine AO.append' (i:=0) rfl rfl rfl rfl (by rfl) (by rfl) rfl rfl rfl (by exact SrcA.str TyD.ax (by rfl)) (by rfl) (by(unfold maxLen;omega)) (by omega) (by(dsimp only[List.set,cA,cN,List.take,List.drop];done)) (fun _=>by(dsimp only[List.set];done)) ?_
 intro V2 hV2
 refine zc (zH (zn (y3 ?_)))
 rw[show a0a [u8 (32*3+8)]++List.map AV.val (byteCells ⟨#[69,110,99,114,121,112,116,48]⟩)=a0a (j0H h0A) by kernel_rfl,show 1+(⟨#[69,110,99,114,121,112,116,48]⟩:ByteArray).size=(j0H h0A).length by rfl]
 refine AQ.g ?_
 refine yj 0 [2] ?_
 refine AQ.u ?_
 try dsimp only[List.map,List.eraseIdx,cA,cN]
 refine yw
theorem d0Q (l:List (List UInt8))(k:Nat):(l.take k).flatten.length≤l.flatten.length:=by
 conv=>rhs;rw[←List.take_append_drop k l]
 rw[List.flatten_append,cH];omega
theorem f0A (l:List (List UInt8)){k:Nat}(h:k<l.length):(l.take (k+1)).flatten=(l.take k).flatten++vat l k:=by
 rw[a0i [] h,List.flatten_append];simp[vat]
theorem i0K (l:List (List UInt8))(hl:l.length<24)(hf:l.flatten.length≤100000):Sp Tryz.prog 109 [t0q l] [] (Is (roB (g0c l))):=by
 have ea:g0c l=u8 (32*4+(l.length:Int))::l.flatten:=by
  rw[g0c,b0g hl,show u8 (32*4+(l.length:Int))=UInt8.ofNat (32*4+l.length) by rw[show 32*4+(l.length:Int)=((32*4+l.length:Nat):Int) by omega,e0c]];rfl
 rw[ea]
 refine yH Tryz.func109 _ Tryz.ntmps109 (fun w0 R0=> ?_)
 refine zC (zq ?_)
 refine zc (zH (zn (zC (zq ?_))))
 refine zb ?_
 refine zZ ?_
 refine wd ?_
 refine vS (xD rfl Tryz.func151 rfl rfl rfl (e0M _ _ ⟨by omega,by omega⟩ ⟨by omega,by omega⟩)) ?_
 intro V1 hV1
 refine zc (zH (zn (zC (zC (zq ?_)))))
 refine zb ?_
 refine zZ ?_
 refine zb (zH (zn (xb ?_)))
 obtain⟨h0,hh0⟩: ∃h0,h0=u8 (32*4+(l.length:Int)):=⟨_,rfl⟩
 rw[←hh0]
 refine zh [(10,_),(11,_)] (fun nn E H=> ∃(k:Nat) (V:Value) (o:List UInt8),(k≤l.length)∧(V.oneCell'=true)∧(o=h0::(l.take k).flatten)∧nn=l.length-k∧E= [(3,.val V),(12,.val (.int .i64 (k:Int)))]∧H= [.row V 5 1 o.length (a0a o)]) _ (⟨0,_,[h0],by omega,‹_›,rfl,rfl,rfl,rfl⟩) ?_
 rintro nn E H ⟨k,V,o,hk,hV,ho,rfl,rfl,rfl⟩
 dsimp only[cA,cN]
 have hol:o.length=1+(l.take k).flatten.length:=by rw[ho,cL];omega
 have hkl:=d0Q l k
 refine zC (zq ?_)
 refine zR (zH (zn (zC ?_)))
 refine ym (fun hlt=> ?_) (fun hlt=> ?_)<;>(try simp only[vU]at hlt)
 ·have hs:=f0A l (k:=k) (by omega)
  have hkl2:=d0Q l (k+1)
  rw[hs,cH]at hkl2
  refine yU (zn (zC (xb (zC (zq ?_)))))
  refine yf ?_
  refine vO (O.loadR rfl rfl (by exact f0Q (k:=k) (by omega) (by omega))) ?_
  refine zc (zH (zn (zq ?_)))
  refine zb ?_
  refine zb ?_
  refine zF 0 ?_
  intro V2 hV2
  refine zc (zH (xA (zn (zq ?_))))
  refine zx ?_
  refine zb (zH ?_)
  rw[show a0a o++a0a (vat l k)=a0a (o++vat l k)from(a0O _ _).symm,show o.length+(vat l k).length=(o++vat l k).length from List.length_append.symm]
  refine zr _ _ _ (by omega) (⟨k+1,_,o++vat l k,by omega,‹_›,by rw[ho,hs];rfl,rfl,rfl,rfl⟩)
 obtain rfl:k=l.length:=by omega
 rw[List.take_length]at ho
 subst ho
 refine wm ?_
 refine xY ?_
 refine wa ?_
 refine xq (zn (zC (zq ?_)))
 refine zb ?_
 refine zc (zH (zn (y3 ?_)))
 refine AQ.g ?_
 refine yj 0 [2] ?_
 refine AQ.u ?_
 try dsimp only[List.map,List.eraseIdx,cA,cN]
 refine yw
theorem s0B (kid:List UInt8)(piv:Int):Sp Tryz.prog 60 [roB kid,.val (.int .i64 piv)] [] (Is (s0R (k0G kid piv))):=by
 refine yH Tryz.func60 _ Tryz.ntmps60 (fun w0 R0=> ?_)
 refine zC (zq ?_)
 refine zc ?_
 refine zc (zH (zn (zC (zC (zq ?_)))))
 refine zb ?_
 refine zZ ?_
 refine yN (zH (zn ?_))
 refine ym (fun h1=> ?_) (fun h1=> ?_)<;>(try simp only[vU]at h1)
 ·rw[q0O (by omega)]
  refine zC (zq ?_)
  refine zc ?_
  refine zc (zH (zn (y3 (xh ?_))))
  refine x9 yP yu (⟨rfl,rfl⟩)
 have hk:kid.length≤7:=by omega
 refine yU (zn (zC (zC (zq ?_))))
 refine zb ?_
 refine zR ?_
 refine zb ?_
 refine yl ?_
 refine yy 14 ?_
 refine zG (zH (zn ?_))
 refine ym (fun h2=> ?_) (fun h2=> ?_)<;>(try simp only[vU]at h2)
 ·rw[q0N (by omega) (by omega)]
  refine zC (zq ?_)
  refine zc ?_
  refine zc (zH (zn (y3 (xh ?_))))
  refine x9 yP yu (⟨rfl,rfl⟩)
 rw[q0M (by omega) (by omega)]
 have hpl:=d0a piv
 have hxl:=f0b hk hpl
 have hsl: ∀b:List UInt8,b.length<24→(c0k b).length=1+b.length:=fun b h=>by rw[c0k,b0g h,cH];rfl
 have ha1:Sp Tryz.prog 109 [.ro false 1 [roB (e0B 10)]] [] (Is (roB (g0c [e0B 10]))):=i0K [e0B 10] (by simp) (by decide)
 have ha5:Sp Tryz.prog 109 [.ro false 5 [roB (e0B 1),roB (g0c [e0B 10]),roB (c0k kid),roB (c0k (b0N piv)),roB (c0k [])]] [] (Is (roB (i0E kid (b0N piv)))):=i0K [e0B 1,g0c [e0B 10],c0k kid,c0k (b0N piv),c0k []] (by simp) (by
  have h1:=hsl kid (by omega)
  have h2:=hsl (b0N piv) (by omega)
  have h3:=hsl [] (by simp)
  have h4:(e0B 1).length=1:=rfl
  have h5:(g0c [e0B 10]).length=2:=rfl
  simp only[List.flatten_cons,List.flatten_nil,cP,cH,cE]at h3⊢;omega)
 have ha3:Sp Tryz.prog 109 [.ro false 3 [roB (j0H h0A),roB (c0k []),roB (c0k (i0E kid (b0N piv)))]] [] (Is (roB (s0L kid (b0N piv)))):=i0K [j0H h0A,c0k [],c0k (i0E kid (b0N piv))] (by simp) (by
  have h1:=hsl _ hxl
  have h3:=hsl [] (by simp)
  have h4:(j0H h0A).length=9:=rfl
  simp only[List.flatten_cons,List.flatten_nil,cP,cH,cE]at h3⊢;omega)
 generalize i0E kid (b0N piv)=x at*
 generalize s0L kid (b0N piv)=y at*
 generalize g0c [e0B 10]=z at*
 refine yU (zn (zC (zq ?_)))
 refine vO (xD rfl Tryz.func110 rfl rfl rfl (l0K 10 (by omega))) ?_
 refine zU ?_
 intro B1
 refine AO.g ?_
 refine yr 0 18 ?_
 refine wH 18 ?_
 refine AO.u ?_
 dsimp only[List.eraseIdx]
 refine vO (xD rfl Tryz.func109 rfl rfl rfl ha1) ?_
 refine zc (zH (zn (zC (zq ?_))))
 refine vO (xD rfl Tryz.func110 rfl rfl rfl (l0K 1 (by omega))) ?_
 refine zb ?_
 refine zb ?_
 refine vO (xD rfl Tryz.func111 rfl rfl rfl (f0e _ (by omega))) ?_
 refine zb ?_
 refine vO (xD rfl Tryz.func112 rfl rfl rfl (p0W _)) ?_
 refine vO (xD rfl Tryz.func111 rfl rfl rfl (f0e _ (by omega))) ?_
 refine vO (O.callC rfl Tryz.func111 rfl rfl rfl (f0e [] (by simp)) (by(repeat(first|exact CoeL.nil|refine CoeL.cons Coe.nil ?_));done)) ?_
 refine xH ?_
 intro B2
 refine AO.g ?_
 refine yr 0 28 ?_
 refine wH 28 ?_
 refine AO.u ?_
 dsimp only[List.eraseIdx]
 refine vO (xD rfl Tryz.func109 rfl rfl rfl ha5) ?_
 refine zc (zH (zn (zC (zq ?_))))
 refine vO (xD rfl Tryz.func113 rfl rfl rfl q0V) ?_
 refine vO (O.callC rfl Tryz.func111 rfl rfl rfl (f0e [] (by simp)) (by(repeat(first|exact CoeL.nil|refine CoeL.cons Coe.nil ?_));done)) ?_
 refine zb ?_
 refine vO (xD rfl Tryz.func111 rfl rfl rfl (f0e _ (by omega))) ?_
 refine xH ?_
 intro B3
 refine AO.g ?_
 refine yr 0 34 ?_
 refine wH 34 ?_
 refine AO.u ?_
 dsimp only[List.eraseIdx]
 refine vO (xD rfl Tryz.func109 rfl rfl rfl ha3) ?_
 refine zc ?_
 refine zc (zH (zn (y3 ?_)))
 refine xG
theorem u0J (a:UInt8):Go.bits .xor .u8 (a.toNat:Int) 54=((a^^^54).toNat:Int):=c0E (p:=fun a=>Go.bits .xor .u8 (a.toNat:Int) 54=((a^^^54).toNat:Int)) (by decide +kernel) a
theorem u0I (a:UInt8):Go.bits .xor .u8 (a.toNat:Int) 92=((a^^^92).toNat:Int):=c0E (p:=fun a=>Go.bits .xor .u8 (a.toNat:Int) 92=((a^^^92).toNat:Int)) (by decide +kernel) a
theorem e0D (l:List (List UInt8))(k:Nat):(l.take k).flatten.length≤l.flatten.length:=by
 conv=>rhs;rw[←List.take_append_drop k l]
 rw[List.flatten_append,cH];omega
theorem g0i (l:List (List UInt8)){k:Nat}(h:k<l.length):(l.take (k+1)).flatten=(l.take k).flatten++vat l k:=by
 rw[a0i [] h,List.flatten_append];simp[vat]
theorem p0s (l:List (List UInt8))(hl:l.length≤1000000)(hf:l.flatten.length≤1000000):Sp Tryz.prog 150 [t0q l] [] (Is (roB l.flatten)):=by
 refine yH Tryz.func150 _ Tryz.ntmps150 (fun w0 R0=> ?_)
 refine zC (zq ?_)
 refine zc (zH (zn (zC (zq ?_))))
 refine zc (zH (zn (zC (zC (zq ?_)))))
 refine zb ?_
 refine zZ ?_
 refine zb (zH (zn (xb ?_)))
 refine AW.g ?_
 refine G.nilRow 5 1 ?_
 refine AW.u ?_
 refine zh [(6,_),(7,_)] (fun nn E H=> ∃(k:Nat) (V:Value),(k≤l.length)∧(V.oneCell'=true)∧nn=l.length-k∧E= [(3,.val V),(8,.val (.int .i64 (k:Int)))]∧H= [.row V 5 1 (l.take k).flatten.length (a0a (l.take k).flatten)]) _ (⟨0,_,by omega,rfl,rfl,rfl,rfl⟩) ?_
 rintro nn E H ⟨k,V,hk,hV,rfl,rfl,rfl⟩
 dsimp only[cA,cN]
 have hkl:=e0D l k
 refine zC (zq ?_)
 refine zR (zH (zn (zC ?_)))
 refine ym (fun hlt=> ?_) (fun hlt=> ?_)<;>(try simp only[vU]at hlt)
 ·have hs:=g0i l (k:=k) (by omega)
  have hkl2:=e0D l (k+1)
  rw[hs,cH]at hkl2
  refine yU (zn (zC (xb (zC (zq ?_)))))
  refine yf ?_
  refine vO (O.loadR rfl rfl (by exact f0Q (k:=k) (by omega) (by omega))) ?_
  refine zc (zH (zn (zq ?_)))
  refine zb ?_
  refine zb ?_
  refine zF 0 ?_
  intro V1 hV1
  refine zc (zH (xA (zn (zq ?_))))
  refine zx ?_
  refine zb (zH ?_)
  rw[show a0a (l.take k).flatten++a0a (vat l k)=a0a (l.take (k+1)).flatten by rw[hs,a0O],show(l.take k).flatten.length+(vat l k).length=(l.take (k+1)).flatten.length by rw[hs,cH]]
  refine zr _ _ _ (by omega) (⟨k+1,_,by omega,‹_›,rfl,rfl,rfl⟩)
 obtain rfl:k=l.length:=by omega
 rw[List.take_length]
 refine wm ?_
 refine xY ?_
 refine wa ?_
 refine xq (zn (zC (zq ?_)))
 refine zb ?_
 refine zc (zH (zn (y3 ?_)))
 refine AQ.g ?_
 refine yj 0 [2] ?_
 refine AQ.u ?_
 try dsimp only[List.map,List.eraseIdx,cA,cN]
 refine yw
theorem l0n {k:List UInt8}(h:k.length≤64):s0m k=k++List.replicate (64-k.length) 0:=by
 unfold s0m
 rw[if_neg (by omega)]
theorem g0D (l:List UInt8)(c:UInt8){k:Nat}(h:k<l.length):(l.take (k+1)).map (· ^^^c)=(l.take k).map (· ^^^c)++[bt l k^^^c]:=by
 rw[i0O h,List.map_append];rfl
theorem n0s (key b:List UInt8)(hk:key.length≤64)(hb:b.length≤900000):Sp Tryz.prog 149 [roB key,roB b] [] (Is (roB (k0p key b))):=by
 have hkb:=l0n hk
 refine yH Tryz.func149 _ Tryz.ntmps149 (fun w0 R0=> ?_)
 refine zC (zq ?_)
 refine zc (zH (zn (zC (zq ?_))))
 refine zb ?_
 refine yA ?_
 intro V1 hV1
 refine zc (zH (zn (zC (zC (zq ?_)))))
 refine zb ?_
 refine wj ?_
 refine vO (O.gtr rfl rfl rfl (by exact c0p (by omega))) (zH (zn ?_))
 refine AW.condF rfl (yU (zn (zC (xb ?_))))
 refine zh [(1,_)] (fun nn E H=> ∃(q:Nat) (V:Value) (l:List UInt8),(q≤64-key.length)∧(V.oneCell'=true)∧(l=key++List.replicate q 0)∧nn=64-key.length-q∧E= [(5,.val V)]∧H= [.row V 5 1 l.length (a0a l)]) _ (⟨0,_,key,by omega,‹_›,by simp,rfl,rfl,rfl⟩) ?_
 rintro nn E H ⟨q,V,l,hq,hV,hl,rfl,rfl,rfl⟩
 dsimp only[cA,cN]
 have hll:l.length=key.length+q:=by rw[hl];simp
 refine zC (zC (zq ?_))
 refine zb ?_
 refine wj ?_
 refine zR (zH (zn ?_))
 refine ym (fun h1=> ?_) (fun h1=> ?_)<;>(try simp only[vU]at h1)
 ·have hgu:a0a (l++[0])=a0a l++[.val (.int .u8 0)]:=b0q l 0
  have hgl:(l++[0]).length=l.length+1:=by simp
  refine yU (zn (xb (zq ?_)))
  refine zb ?_
  refine zU ?_
  intro B2
  refine AO.g ?_
  refine yr 0 21 ?_
  refine wH 21 ?_
  refine AO.u ?_
  dsimp only[List.eraseIdx]
  refine yv 0 ?_
  intro V3 hV3
  refine zc (zH (xA ?_))
  rw[show a0a l++_=_ from hgu.symm,←hgl]
  refine zr _ _ _ (by omega) (⟨q+1,_,l++[0],by omega,‹_›,by rw[hl,List.replicate_succ',List.append_assoc],rfl,rfl,rfl⟩)
 obtain⟨K,hK⟩: ∃K,K=s0m key:=⟨_,rfl⟩
 have hlK:l=K:=by rw[hK,hkb,hl,show 64-key.length=q by omega]
 have hKl:K.length=64:=by rw[hK];exact p0u key
 have hmac0:k0p key b=sha (K.map (· ^^^92)++sha (K.map (· ^^^54)++b)):=by rw[hK];rfl
 rw[hmac0]
 subst hlK
 refine AW.g ?_
 refine yj 0 [5] ?_
 refine AW.u ?_
 try dsimp only[List.map,List.eraseIdx,cA,cN]
 refine wm ?_
 refine xY ?_
 refine wa ?_
 refine xq (zn (zC (zq ?_)))
 refine zc ?_
 refine zc (zH (zn (zC (zC (zq ?_)))))
 refine zb ?_
 refine zZ ?_
 refine zb (zH (zn (xb ?_)))
 refine AW.g ?_
 refine G.nilRow 5 1 ?_
 refine AW.u ?_
 refine AW.g ?_
 refine G.nilRow 5 1 ?_
 refine AW.u ?_
 refine zh [(1,_),(23,_),(24,_)] (fun nn E H=> ∃(i:Nat) (V V':Value),(i≤64)∧(V.oneCell'=true)∧(V'.oneCell'=true)∧nn=64-i∧E= [(6,.val V),(7,.val V'),(25,.val (.int .i64 (i:Int)))]∧H= [.row V 5 1 i (a0a ((l.take i).map (· ^^^54))),.row V' 5 1 i (a0a ((l.take i).map (· ^^^92)))]) _ (⟨0,.slice none 0 0,.slice none 0 0,by omega,rfl,rfl,rfl,rfl,rfl⟩) ?_
 rintro nn E H ⟨i,V,V',hi,hV,hV',rfl,rfl,rfl⟩
 dsimp only[cA,cN]
 refine zC (zq ?_)
 refine zR (zH (zn (zC ?_)))
 refine ym (fun h2=> ?_) (fun h2=> ?_)<;>(try simp only[vU]at h2)
 ·have hil:i<l.length:=by omega
  have h5:=g0D l 54 hil
  have h9:=g0D l 92 hil
  have g5:a0a ((l.take i).map (· ^^^54))++[.val (.int .u8 (((bt l i)^^^54).toNat:Int))]=a0a ((l.take (i+1)).map (· ^^^54)):=by rw[h5];exact(b0q _ _).symm
  have g9:a0a ((l.take i).map (· ^^^92))++[.val (.int .u8 (((bt l i)^^^92).toNat:Int))]=a0a ((l.take (i+1)).map (· ^^^92)):=by rw[h9];exact(b0q _ _).symm
  refine yU (zn (zC (xb (zC (zq ?_)))))
  refine yf ?_
  refine vO vA ?_
  refine zc (zH (zn (zq ?_)))
  refine zb ?_
  refine zb ?_
  refine vO (O.xor_ rfl rfl rfl (u0J _)) ?_
  refine zU ?_
  intro B4
  refine AO.g ?_
  refine yr 0 32 ?_
  refine wH 32 ?_
  refine AO.u ?_
  dsimp only[List.eraseIdx]
  refine yv 0 ?_
  intro V5 hV5
  refine zb ?_
  refine zb ?_
  refine vO (O.xor_ rfl rfl rfl (u0I _)) ?_
  refine zU ?_
  intro B6
  refine AO.g ?_
  refine yr 0 37 ?_
  refine wH 37 ?_
  refine AO.u ?_
  dsimp only[List.eraseIdx]
  refine yv 1 ?_
  intro V7 hV7
  refine zc ?_
  refine zc (zH (xA (zn (zq ?_))))
  refine zx ?_
  refine zb (zH ?_)
  rw[show a0a ((l.take i).map (· ^^^54))++_=_ from g5,show a0a ((l.take i).map (· ^^^92))++_=_ from g9]
  refine zr _ _ _ (by omega) (⟨i+1,V5,V7,by omega,hV5,hV7,rfl,rfl,rfl⟩)
 obtain rfl:i=64:=by omega
 rw[List.take_of_length_le (by omega)]
 have l5:(l.map (· ^^^54)).length=64:=by rw[List.length_map];omega
 have l9:(l.map (· ^^^92)).length=64:=by rw[List.length_map];omega
 generalize l.map (· ^^^54)=X at*
 generalize l.map (· ^^^92)=Y at*
 have hshl:(sha (X++b)).length=32:=g0X _
 have e43:AV.ro false (64+b.length) (a0a X++a0a b)=roB (X++b):=by rw[←l5,←List.length_append,←a0O];rfl
 have e45:AV.ro false (64+(sha (X++b)).length) (a0a Y++a0a (sha (X++b)))=roB (Y++sha (X++b)):=by rw[←l9,←List.length_append,←a0O];rfl
 refine wm ?_
 refine xY ?_
 refine wa ?_
 refine xq (zn (zC (zq ?_)))
 refine zb ?_
 refine zb ?_
 refine zb ?_
 refine zF 0 ?_
 intro V8 hV8
 refine AO.g ?_
 refine yL 0 [43] ?_
 refine AO.u ?_
 dsimp only[List.map,List.eraseIdx,cA,cN]
 rw[e43]
 refine vO (xD rfl Tryz.func176 rfl rfl rfl (q0j _ (by(simp only[cH,List.length_map,g0X];omega)))) ?_
 refine zB 0 ?_
 intro V9 hV9
 refine AO.g ?_
 refine yL 0 [45] ?_
 refine AO.u ?_
 dsimp only[List.map,List.eraseIdx,cA,cN]
 rw[e45]
 refine vO (xD rfl Tryz.func176 rfl rfl rfl (q0j _ (by(simp only[cH,List.length_map,g0X];omega)))) ?_
 refine zc (zH (zn (y3 ?_)))
 refine yw
theorem l0s (key b:List UInt8)(hk:key.length≤64)(hb:b.length≤900000):Sp Tryz.prog 104 [roB key,roB b] [] (Is (roB (k0p key b))):=by
 refine yH Tryz.func104 _ Tryz.ntmps104 (fun w0 R0=> ?_)
 refine zC (zq ?_)
 refine zc (zH (zn (zC (zq ?_))))
 refine zb ?_
 refine zb ?_
 refine vO (xD rfl Tryz.func149 rfl rfl rfl (n0s _ _ (by omega) (by omega))) ?_
 refine zc (zH (zn (y3 ?_)))
 refine yw
theorem f0G (prk info:List UInt8)(n:Nat)(hp:prk.length≤64)(hi:info.length≤100000)(hn:n≤8160):Sp Tryz.prog 105 [roB prk,roB info,.val (.int .i64 (n:Int))] [] (Is (.tup [roB (f0H prk info n),.val (.int .i64 0)])):=by
 refine yH Tryz.func105 _ Tryz.ntmps105 (fun w0 R0=> ?_)
 refine zC (zq ?_)
 refine zc ?_
 refine zc (zH (zn (zC (zC (zq ?_)))))
 refine zb ?_
 refine vO (O.lss rfl rfl rfl (by exact c0p (by omega))) ?_
 refine zb ?_
 refine zb ?_
 refine vO (O.gtr rfl rfl rfl (by exact c0p (by omega))) ?_
 refine vO (O.pickF rfl rfl rfl) (zH (zn ?_))
 refine AW.condF rfl (yU (zn (zC (zq ?_))))
 refine zc ?_
 refine zc (zH (zn (zC (zC (zq ?_)))))
 refine zc (zH (zn (xb ?_)))
 refine AW.g ?_
 refine G.nilRo 9 rfl ?_
 refine AW.u ?_
 try dsimp only[List.map,List.eraseIdx,cA,cN]
 refine AW.g ?_
 refine G.nilRow 5 1 ?_
 refine AW.u ?_
 refine zh [(0,_),(1,_),(2,_)] (fun nn E H=> ∃(k:Nat) (V:Value),(k≤(n+31)/32)∧(V.oneCell'=true)∧nn=(n+31)/32-k∧E= [(8,.val V),(9,roB (j0i prk info k)),(10,.val (.int .i64 ((k:Int)+1)))]∧H= [.row V 5 1 (c0n prk info k).length (a0a (c0n prk info k))]) _ (⟨0,_,by omega,rfl,rfl,rfl,rfl⟩) ?_
 rintro nn E H ⟨k,V,hk,hV,rfl,rfl,rfl⟩
 dsimp only[cA,cN]
 have hal:=e0p prk info k
 have htl:(j0i prk info k).length≤32:=by
  cases k with
  |zero=>simp[j0i]
  |succ k=>rw[h0p];omega
 refine zC (zC (zq ?_))
 refine zb ?_
 refine wj ?_
 refine zb ?_
 refine zR (zH (zn ?_))
 refine ym (fun h1=> ?_) (fun h1=> ?_)<;>(try simp only[vU]at h1)
 ·have hjn:Sp Tryz.prog 150 [.ro false 3 [roB (j0i prk info k),roB info,.ro false 1 [.val (.int .u8 ((u8 ((k:Int)+1)).toNat:Int))]]] [] (Is (roB (j0i prk info k++info++[UInt8.ofNat (k+1)]))):=by
   have h:=p0s [j0i prk info k,info,[u8 ((k:Int)+1)]] (by simp) (by simp;omega)
   rw[show [j0i prk info k,info,[u8 ((k:Int)+1)]].flatten=j0i prk info k++info++[UInt8.ofNat (k+1)] by rw[k0e];simp]at h
   exact h
  have hhm:Sp Tryz.prog 149 [roB prk,roB (j0i prk info k++info++[UInt8.ofNat (k+1)])] [] (Is (roB (j0i prk info (k+1)))):=n0s _ _ hp (by simp;omega)
  have hst:=f0I prk info k
  have hsl:(c0n prk info (k+1)).length=(c0n prk info k).length+(j0i prk info (k+1)).length:=by rw[hst,cH]
  have htl2:=h0p prk info k
  refine yU (zn (zC (xb (zC (zq ?_)))))
  refine zb ?_
  refine zb ?_
  refine zb ?_
  refine zb ?_
  refine y4 ?_
  refine zU ?_
  intro B1
  refine AO.g ?_
  refine yr 0 28 ?_
  refine wH 28 ?_
  refine AO.u ?_
  dsimp only[List.eraseIdx]
  refine xH ?_
  intro B2
  refine AO.g ?_
  refine yr 0 29 ?_
  refine wH 29 ?_
  refine AO.u ?_
  dsimp only[List.eraseIdx]
  refine vO (xD rfl Tryz.func150 rfl rfl rfl hjn) ?_
  refine vO (xD rfl Tryz.func149 rfl rfl rfl hhm) ?_
  refine zc (zH (zn (zq ?_)))
  refine zb ?_
  refine zb ?_
  refine zB 0 ?_
  intro V3 hV3
  refine zc (zH (xA (zn (zq ?_))))
  refine zb ?_
  refine zx ?_
  refine zc (zH ?_)
  rw[show a0a (c0n prk info k)++_=a0a (c0n prk info (k+1)) by rw[hst,a0O],←hsl]
  refine zr _ _ _ (by omega) (⟨k+1,_,by omega,‹_›,rfl,rfl,rfl⟩)
 have hke:k=(n+31)/32:=by omega
 have hex:f0H prk info n=(c0n prk info k).take n:=by rw[hke];rfl
 rw[hex]
 generalize c0n prk info k=o at*
 refine AW.g ?_
 refine yj 0 [8] ?_
 refine AW.u ?_
 try dsimp only[List.map,List.eraseIdx,cA,cN]
 refine wm ?_
 refine xY ?_
 refine wa ?_
 refine xq (zn (zC (zq ?_)))
 refine zb ?_
 refine zb ?_
 refine vO (O.sliceToB (k:=n) rfl rfl rfl (by rfl) (by omega)) ?_
 refine zc ?_
 refine zc (zH (zn (y3 ?_)))
 refine xG
structure Inp where
 sec:List UInt8
 salt:List UInt8
 has:Bool
 ctx:List UInt8
 snd:List UInt8
 rcp:List UInt8
abbrev cI (x:Inp):List AV:= [roB x.sec,roB x.salt,.val (.bool x.has),roB x.ctx,roB x.snd,roB x.rcp]
abbrev u0p (x:Inp):AV:= .agg (cI x)
structure Cx where
 inp:Inp
 sk:List UInt8
 rk:List UInt8
 com:List UInt8
abbrev cX (c:Cx):List AV:= [roB c.inp.sec,roB c.inp.salt,.val (.bool c.inp.has),roB c.inp.ctx,roB c.inp.snd,roB c.inp.rcp,roB c.sk,roB c.rk,roB c.com]
abbrev h0w (c:Cx):AV:= .agg (cX c)
def Inp.none:Inp:=⟨[],[],false,[],[],[]⟩
def Cx.none:Cx:=⟨Inp.none,[],[],[]⟩
abbrev e0K (x:Inp):Prop:=(1≤x.sec.length∧x.sec.length≤64∧x.salt.length≤64∧x.ctx.length≤16∧(x.has=true∨x.ctx.length=0))∧x.snd.length≤7∧x.rcp.length≤7∧ ¬x.snd=x.rcp
abbrev f0Z (c:Cx):Prop:=e0K c.inp∧c.sk.length=16∧c.rk.length=16∧c.com.length=13
theorem t0P {x:Inp}(h: ¬e0K x):false=decide (e0K x):=(decide_eq_false h).symm
theorem t0R {x:Inp}(h:1≤x.sec.length∧x.sec.length≤64∧x.salt.length≤64∧x.ctx.length≤16∧(x.has=true∨x.ctx.length=0)):
  (decide ((x.snd.length:Int)≤7)&&decide ((x.rcp.length:Int)≤7)&&(e0G x.snd).toList !=(e0G x.rcp).toList)=decide (e0K x):=by
 rw[Bool.eq_iff_iff,Bool.and_eq_true,Bool.and_eq_true,cQ,cQ,cQ,bne_iff_ne,ne_eq,a0L,a0L]
 constructor
 ·rintro⟨⟨h1,h2⟩,h3⟩
  exact⟨h,by omega,by omega,h3⟩
 rintro⟨-,h1,h2,h3⟩
 exact⟨⟨by omega,by omega⟩,h3⟩
theorem t0Q {x:Inp}:(decide (1≤(x.sec.length:Int))&&decide ((x.sec.length:Int)≤64)&&decide ((x.salt.length:Int)≤64)&&decide ((x.ctx.length:Int)≤16)&&(x.has||((x.ctx.length:Int)==0))&&decide ((x.snd.length:Int)≤7)&&decide ((x.rcp.length:Int)≤7)&& !(x.snd==x.rcp))=decide (e0K x):=by
 rw[Bool.eq_iff_iff]
 simp only[Bool.and_eq_true,Bool.or_eq_true,cQ,beq_iff_eq,Bool.not_eq_true',beq_eq_false_iff_ne,ne_eq]
 constructor
 ·rintro⟨⟨⟨⟨⟨⟨⟨h1,h2⟩,h3⟩,h4⟩,h5⟩,h6⟩,h7⟩,h8⟩
  exact⟨⟨by omega,by omega,by omega,by omega,h5.imp id (fun h=>by omega)⟩,by omega,by omega,h8⟩
 rintro⟨⟨h1,h2,h3,h4,h5⟩,h6,h7,h8⟩
 exact⟨⟨⟨⟨⟨⟨⟨by omega,by omega⟩,by omega⟩,by omega⟩,h5.imp id (fun h=>by omega)⟩,by omega⟩,by omega⟩,h8⟩
theorem l0v (x:Inp):Sp Tryz.prog 76 [u0p x] [] (Is (.val (.bool (decide (e0K x))))):=by
 refine yH Tryz.func76 _ Tryz.ntmps76 (fun w0 R0=> ?_)
 refine zC (zq ?_)
 refine z9 ?_
 intro B1
 refine zc (zH (zn (zC (zC (zq ?_)))))
 refine zt ?_
 refine zA ?_
 refine zZ ?_
 refine zR ?_
 refine zb ?_
 refine zK ?_
 refine zu 8 ?_
 refine yg 9 ?_
 refine yy 10 ?_
 refine zG ?_
 refine zb ?_
 refine zK ?_
 refine zu 14 ?_
 refine yg 15 ?_
 refine yy 16 ?_
 refine zG ?_
 refine zb ?_
 refine zK ?_
 refine zu 20 ?_
 refine yg 21 ?_
 refine yy 22 ?_
 refine zG ?_
 refine zb ?_
 refine zK ?_
 refine zu 26 ?_
 refine xf 27 ?_
 refine wG 28 ?_
 refine zK ?_
 refine zu 30 ?_
 refine yg 31 ?_
 refine yy 32 ?_
 refine wI 29 ?_
 refine zG (zH (zn ?_))
 refine ym (fun h35=> ?_) (fun h35=> ?_)<;>(try simp only[vU]at h35)
 ·have e:=t0P (x:=x) (by
   rintro⟨⟨h1,h2,h3,h4,h5⟩, -⟩
   rcases h35 with(((h|h)|h)|h)|⟨h,h'⟩
   ·omega
   ·omega
   ·omega
   ·omega
   rcases h5 with h5|h5
   ·rw[h]at h5;cases h5
   omega)
  refine zC (zq ?_)
  refine zc (zH (zn (y3 (xh ?_))))
  refine vm rfl rfl nS (⟨congrArg (fun z=>AV.val (.bool z)) e,rfl⟩)
 have e:=t0R (x:=x) (by
  obtain⟨⟨⟨⟨h1,h2⟩,h3⟩,h4⟩,h5⟩:=h35
  refine⟨by omega,by omega,by omega,by omega,?_⟩
  cases hh:x.has with
  |true=>exact .inl rfl
  |false=>have:=h5 hh;exact .inr (by omega))
 refine yU (zn (zC (zq ?_)))
 refine zt ?_
 refine zA ?_
 refine zZ ?_
 refine vL ?_
 refine zb ?_
 refine zK ?_
 refine zu 41 ?_
 refine yg 42 ?_
 refine xr 43 ?_
 refine zN ?_
 refine zb ?_
 refine zK ?_
 refine zu 47 ?_
 refine AO.opG rfl rfl rfl (fun hp=>wP 48 rfl (by exact hp) vK) ?_
 refine zK ?_
 refine zu 50 ?_
 refine AO.opG rfl rfl rfl (fun hp=>wP 51 rfl (by exact hp) vK) ?_
 refine AO.opG rfl rfl rfl (fun hp=>wP 49 rfl (by exact hp) (wP 52 rfl (by exact hp) (O.neqS rfl rfl rfl (by rfl)))) ?_
 refine zN ?_
 refine zc (zH (zn (y3 ?_)))
 refine vm rfl rfl nS (⟨congrArg (fun z=>AV.val (.bool z)) e,rfl⟩)
theorem g0t (x:Inp):Sp Tryz.prog 77 [u0p x] [] (Is (.val (.bool (decide (e0K x))))):=by
 have e:=t0Q (x:=x)
 refine yH Tryz.func77 _ Tryz.ntmps77 (fun w0 R0=> ?_)
 refine zC (zq ?_)
 refine z9 ?_
 intro B1
 refine zc (zH (zn (zC (zq ?_))))
 refine zt ?_
 refine zA ?_
 refine zZ ?_
 refine xR ?_
 refine zb ?_
 refine zK ?_
 refine zu 8 ?_
 refine yg 9 ?_
 refine xr 10 ?_
 refine zN ?_
 refine zb ?_
 refine zK ?_
 refine zu 14 ?_
 refine yg 15 ?_
 refine xr 16 ?_
 refine zN ?_
 refine zb ?_
 refine zK ?_
 refine zu 20 ?_
 refine yg 21 ?_
 refine xr 22 ?_
 refine zN ?_
 refine zb ?_
 refine zK ?_
 refine zu 26 ?_
 refine wG 27 ?_
 refine zK ?_
 refine zu 29 ?_
 refine yg 30 ?_
 refine xe 31 ?_
 refine AO.opG rfl rfl rfl (fun hp=>wP 28 rfl (by exact hp) (O.pickOr rfl rfl rfl rfl (fun h=>by simp_all))) ?_
 refine zN ?_
 refine zb ?_
 refine zK ?_
 refine zu 36 ?_
 refine yg 37 ?_
 refine xr 38 ?_
 refine zN ?_
 refine zb ?_
 refine zK ?_
 refine zu 42 ?_
 refine yg 43 ?_
 refine xr 44 ?_
 refine zN ?_
 refine zb ?_
 refine zK ?_
 refine zu 48 ?_
 refine zK ?_
 refine zu 50 ?_
 refine AO.opG rfl rfl rfl (fun hp=>wP 49 rfl (by exact hp) (wP 51 rfl (by exact hp) (xD rfl Tryz.func31 rfl rfl rfl (a0Y _ _)))) ?_
 refine xf 52 ?_
 refine zN ?_
 refine zc (zH (zn (y3 ?_)))
 refine vm rfl rfl nS (⟨congrArg (fun z=>AV.val (.bool z)) e,rfl⟩)
theorem w0c {c:Cx}:(decide (e0K c.inp)&&((c.sk.length:Int)==16)&&((c.rk.length:Int)==16)&&((c.com.length:Int)==13))=decide (f0Z c):=by
 rw[Bool.eq_iff_iff]
 simp only[Bool.and_eq_true,cQ,beq_iff_eq]
 constructor
 ·rintro⟨⟨⟨h1,h2⟩,h3⟩,h4⟩
  exact⟨h1,by omega,by omega,by omega⟩
 rintro⟨h1,h2,h3,h4⟩
 exact⟨⟨⟨h1,by omega⟩,by omega⟩,by omega⟩
theorem m0R (c:Cx):Sp Tryz.prog 27 [h0w c] [] (Is (.val (.bool (decide (f0Z c))))):=by
 have e:=w0c (c:=c)
 refine yH Tryz.func27 _ Tryz.ntmps27 (fun w0 R0=> ?_)
 refine zC (zq ?_)
 refine z9 ?_
 intro B1
 refine zc (zH (zn (zC (zq ?_))))
 refine zt ?_
 refine zI ?_
 refine vO (xD rfl Tryz.func76 rfl rfl rfl (l0v c.inp)) ?_
 refine zb ?_
 refine zK ?_
 refine zu 7 ?_
 refine yg 8 ?_
 refine xe 9 ?_
 refine zN ?_
 refine zb ?_
 refine zK ?_
 refine zu 13 ?_
 refine yg 14 ?_
 refine xe 15 ?_
 refine zN ?_
 refine zb ?_
 refine zK ?_
 refine zu 19 ?_
 refine yg 20 ?_
 refine xe 21 ?_
 refine zN ?_
 refine zc (zH (zn (y3 ?_)))
 refine vm rfl rfl nS (⟨congrArg (fun z=>AV.val (.bool z)) e,rfl⟩)
theorem e0e (c:Cx):Sp Tryz.prog 28 [h0w c] [] (Is (.val (.bool (decide (f0Z c))))):=by
 have e:=w0c (c:=c)
 refine yH Tryz.func28 _ Tryz.ntmps28 (fun w0 R0=> ?_)
 refine zC (zq ?_)
 refine z9 ?_
 intro B1
 refine zc (zH (zn (zC (zq ?_))))
 refine zt ?_
 refine zI ?_
 refine vO (xD rfl Tryz.func77 rfl rfl rfl (g0t c.inp)) ?_
 refine zb ?_
 refine zK ?_
 refine zu 7 ?_
 refine yg 8 ?_
 refine xe 9 ?_
 refine zN ?_
 refine zb ?_
 refine zK ?_
 refine zu 13 ?_
 refine yg 14 ?_
 refine xe 15 ?_
 refine zN ?_
 refine zb ?_
 refine zK ?_
 refine zu 19 ?_
 refine yg 20 ?_
 refine xe 21 ?_
 refine zN ?_
 refine zc (zH (zn (y3 ?_)))
 refine vm rfl rfl nS (⟨congrArg (fun z=>AV.val (.bool z)) e,rfl⟩)
def o0p (c:Cx):Cx:=⟨⟨c.inp.sec,c.inp.salt,c.inp.has,c.inp.ctx,c.inp.rcp,c.inp.snd⟩,c.rk,c.sk,c.com⟩
abbrev SmX (c:Cx):Prop:=(c.inp.sec.length≤1000000∧c.inp.salt.length≤1000000∧c.inp.ctx.length≤1000000∧c.inp.snd.length≤1000000∧c.inp.rcp.length≤1000000)∧c.sk.length≤1000000∧c.rk.length≤1000000∧c.com.length≤1000000
theorem l0U (c:Cx)(h:SmX c):Sp Tryz.prog 36 [h0w c] [] (Is (h0w (o0p c))):=by
 obtain⟨⟨h1,h2,h3,h4,h5⟩,h6,h7,h8⟩:=h
 refine yH Tryz.func36 _ Tryz.ntmps36 (fun w0 R0=> ?_)
 refine zC (zq ?_)
 refine z9 ?_
 intro B1
 refine zd ?_
 intro B2
 refine zH (zn (zC ?_))
 refine yo 34 ?_
 simp only[cT,cZ,cD,cO]
 refine yn ?_
 refine yn ?_
 refine zO ?_
 refine vP (xD rfl Tryz.func69 rfl rfl rfl (a0o _ (by omega))) ?_
 refine yn ?_
 refine yn ?_
 refine zO ?_
 refine vP (xD rfl Tryz.func69 rfl rfl rfl (a0o _ (by omega))) ?_
 refine yn ?_
 refine yn ?_
 refine zO ?_
 refine yn ?_
 refine yn ?_
 refine zO ?_
 refine vP (xD rfl Tryz.func69 rfl rfl rfl (a0o _ (by omega))) ?_
 refine yn ?_
 refine yn ?_
 refine zO ?_
 refine vP (xD rfl Tryz.func69 rfl rfl rfl (a0o _ (by omega))) ?_
 refine yn ?_
 refine yn ?_
 refine zO ?_
 refine vP (xD rfl Tryz.func69 rfl rfl rfl (a0o _ (by omega))) ?_
 refine xN ?_
 refine yn ?_
 refine zO ?_
 refine vP (xD rfl Tryz.func69 rfl rfl rfl (a0o _ (by omega))) ?_
 refine yn ?_
 refine zO ?_
 refine vP (xD rfl Tryz.func69 rfl rfl rfl (a0o _ (by omega))) ?_
 refine yn ?_
 refine zO ?_
 refine vP (xD rfl Tryz.func69 rfl rfl rfl (a0o _ (by omega))) ?_
 refine xN ?_
 refine vf ?_
 simp only[a0g,cN,cA,cP]
 refine za 0 (zH (zn (y3 ?_)))
 refine AQ.retCell rfl rfl (by repeat(exact List.Mem.head _)) (by rfl) rfl nS (⟨rfl,rfl⟩)
def u0e (x:Inp):Cx:=⟨x,f0H (k0p x.salt x.sec) (g0h x.snd x.ctx x.has p0t 16) 16,f0H (k0p x.salt x.sec) (g0h x.rcp x.ctx x.has p0t 16) 16,f0H (k0p x.salt x.sec) (g0h [] x.ctx x.has ivT 13) 13⟩
theorem s0t {x:Inp}(h:e0K x):f0Z (u0e x):=⟨h,e0o,e0o,e0o⟩
abbrev w0p (r:Cx×Int):AV:= .tup [h0w r.1,.val (.int .i64 r.2)]
def u0D (x:Inp):Cx×Int:=if e0K x then(u0e x,0)else(Cx.none,1)
theorem n0E (x:Inp):Sp Tryz.prog 54 [u0p x] [] (Is (w0p (u0D x))):=by
 refine yH Tryz.func54 _ Tryz.ntmps54 (fun w0 R0=> ?_)
 refine zC (zq ?_)
 refine z9 ?_
 intro B1
 refine zd ?_
 intro B2
 refine zc (zH (zn (zC (zC (zq ?_)))))
 refine zw ?_
 refine vO (xD rfl Tryz.func77 rfl rfl rfl (g0t x)) ?_
 refine xo (zH (zn ?_))
 refine ym (fun h=> ?_) (fun h=> ?_)<;>(try simp only[vU]at h)
 ·rw[show u0D x=(Cx.none,1)from if_neg h]
  refine zC (zq ?_)
  refine zM ?_
  refine za 0 ?_
  refine zc (zH (zn (y3 (xh ?_))))
  refine x9 zP zk (⟨rfl,rfl⟩)
 rw[show u0D x=(u0e x,0)from if_pos h]
 obtain⟨⟨h1,h2,h3,h4,h5⟩,h6,h7,h8⟩:=h
 have hi1:=g0Z x.snd x.ctx x.has _ p0t 16 (by omega) (by omega) (by decide) (by omega) j0N
 have hi2:=g0Z x.rcp x.ctx x.has _ p0t 16 (by omega) (by omega) (by decide) (by omega) j0N
 have hi3:=g0Z [] x.ctx x.has _ ivT 13 (by simp) (by omega) (by decide) (by omega) o0A
 have hl:=p0z x.salt x.sec
 have g1:=e0W (id:=x.snd) (ctx:=x.ctx) (has:=x.has) (kind:=p0t) (n:=16) (by omega) (by omega) (by decide) (by omega)
 have g2:=e0W (id:=x.rcp) (ctx:=x.ctx) (has:=x.has) (kind:=p0t) (n:=16) (by omega) (by omega) (by decide) (by omega)
 have g3:=e0W (id:= []) (ctx:=x.ctx) (has:=x.has) (kind:=ivT) (n:=13) (by simp) (by omega) (by decide) (by omega)
 have he1:=f0G (k0p x.salt x.sec) (g0h x.snd x.ctx x.has p0t 16) 16 (by omega) (by omega) (by omega)
 have he2:=f0G (k0p x.salt x.sec) (g0h x.rcp x.ctx x.has p0t 16) 16 (by omega) (by omega) (by omega)
 have he3:=f0G (k0p x.salt x.sec) (g0h [] x.ctx x.has ivT 13) 13 (by omega) (by omega) (by omega)
 refine yU (zn (zC (zq ?_)))
 refine zt ?_
 refine zp ?_
 refine zt ?_
 refine zp ?_
 refine vO (xD rfl Tryz.func104 rfl rfl rfl (l0s _ _ (by omega) (by omega))) ?_
 refine zc (zH (zn (zC ?_)))
 refine yo 20 ?_
 simp only[cT,cZ,cD,cO]
 refine yn ?_
 refine zO ?_
 refine vP (xD rfl Tryz.func69 rfl rfl rfl (a0o _ (by omega))) ?_
 refine yn ?_
 refine zO ?_
 refine vP (xD rfl Tryz.func69 rfl rfl rfl (a0o _ (by omega))) ?_
 refine yn ?_
 refine zO ?_
 refine yn ?_
 refine zO ?_
 refine vP (xD rfl Tryz.func69 rfl rfl rfl (a0o _ (by omega))) ?_
 refine yn ?_
 refine zO ?_
 refine vP (xD rfl Tryz.func69 rfl rfl rfl (a0o _ (by omega))) ?_
 refine yn ?_
 refine zO ?_
 refine vP (xD rfl Tryz.func69 rfl rfl rfl (a0o _ (by omega))) ?_
 refine xN ?_
 refine xN ?_
 refine yS ?_
 refine vf ?_
 simp only[a0g,cN,cA,cP]
 rintro _ _ ⟨B3,rfl,rfl⟩
 simp only[cA,cN]
 refine za 0 (zH (zn (zC (zq ?_))))
 refine zb ?_
 refine zt ?_
 refine zp ?_
 refine zt ?_
 refine zp ?_
 refine zt ?_
 refine zp ?_
 refine vO (xD rfl Tryz.func106 rfl rfl rfl hi1) ?_
 refine vO (xD rfl Tryz.func105 rfl rfl rfl he1) ?_
 refine zb ?_
 refine zW ?_
 refine zW ?_
 refine zt ?_
 refine za 0 (zH (zn (zC (zq ?_))))
 refine zb ?_
 refine zt ?_
 refine zp ?_
 refine zt ?_
 refine zp ?_
 refine zt ?_
 refine zp ?_
 refine vO (xD rfl Tryz.func106 rfl rfl rfl hi2) ?_
 refine vO (xD rfl Tryz.func105 rfl rfl rfl he2) ?_
 refine zb ?_
 refine zW ?_
 refine zW ?_
 refine zt ?_
 refine za 0 (zH (zn (zC (zq ?_))))
 refine zb ?_
 refine zt ?_
 refine zp ?_
 refine zt ?_
 refine zp ?_
 refine vO (O.callC rfl Tryz.func106 rfl rfl rfl hi3 (by(repeat(first|exact CoeL.nil|refine CoeL.cons Coe.rfl ?_|refine CoeL.cons Coe.nil ?_));done)) ?_
 refine vO (xD rfl Tryz.func105 rfl rfl rfl he3) ?_
 refine zb ?_
 refine zW ?_
 refine zW ?_
 refine zt ?_
 refine za 0 (zH (zn (zC (zq ?_))))
 refine zI ?_
 refine za 1 ?_
 refine zc (zH (zn (y3 ?_)))
 refine AQ.retCT rfl rfl rfl mM (by(dsimp only[List.set,cA,cN,List.take,List.drop];rfl)) rfl nS (⟨rfl,rfl⟩)
end Go.Proofs.YtojomcdjcpmnkaaGreat.By
namespace Go.Proofs.YtojomcdjcpmnkaaGreat.By
open Go.RowKit L A Dk
attribute [local irreducible] AW AQ AO
def beVal (l:List UInt8):Nat:=l.foldl (fun n x=>n*256+x.toNat) 0
theorem d0h (l:List UInt8)(x:UInt8):beVal (l++[x])=beVal l*256+x.toNat:=by simp[beVal,List.foldl_append]
theorem p0X: ∀(k:Nat) (l:List UInt8),l.length=k→beVal l<256^k:=by
 intro k
 induction k with
 |zero=>intro l h;rw[List.eq_nil_of_length_eq_zero h];decide
 |succ k ih=>
  intro l h
  have hne:l≠ []:=by intro e;subst e;simp at h
  obtain⟨r,x,rfl⟩: ∃r x,l=r++[x]:=⟨l.dropLast,l.getLast hne,(List.dropLast_concat_getLast hne).symm⟩
  have h1:=ih r (by simp at h;exact h)
  have h2:=x.toNat_lt
  rw[d0h,Nat.pow_succ];omega
def d0d (b:List UInt8):Int×Int:=if b.length=0 then(0,2)else if 5<b.length then(0,8)else if 1<b.length∧bt b 0=0 then(0,4)else((beVal b:Int),0)
theorem n0e (b:List UInt8):Sp Tryz.prog 129 [roB b] [] (Is (.tup [.val (.int .i64 (d0d b).1),.val (.int .i64 (d0d b).2)])):=by
 refine yH Tryz.func129 _ Tryz.ntmps129 (fun w0 R0=> ?_)
 refine zC (zq ?_)
 refine zc ?_
 refine zc (zH (zn (zC (xb (zC (zq ?_))))))
 refine zb ?_
 refine zZ ?_
 refine yi ?_
 refine zc (zH (zn ?_))
 refine ym (fun h=> ?_) (fun h=> ?_)<;>(try simp only[vU]at h)
 ·have e:d0d b=(0,2):=by unfold d0d;rw[if_pos (by omega)]
  rw[e]
  refine zC (zq ?_)
  refine zc ?_
  refine zc (zH (zn (y3 ?_)))
  refine wg (xh ?_)
  refine xG
 refine zC (zq ?_)
 refine zb ?_
 refine zZ ?_
 refine yN ?_
 refine zc (zH (zn ?_))
 refine ym (fun h2=> ?_) (fun h2=> ?_)<;>(try simp only[vU]at h2)
 ·have e:d0d b=(0,8):=by unfold d0d;rw[if_neg (by omega),if_pos (by omega)]
  rw[e]
  refine zC (zq ?_)
  refine zc ?_
  refine zc (zH (zn (y3 ?_)))
  refine wg (xh ?_)
  refine xG
 refine zC (zq ?_)
 refine zb ?_
 refine zZ ?_
 refine yN ?_
 refine zb ?_
 refine yl ?_
 refine AO.opG rfl rfl rfl (fun hp=>wP 20 rfl (by exact hp) yd) ?_
 refine AO.opG rfl rfl rfl (fun hp=>wP 21 rfl (by exact hp) (O.loadR rfl rfl (by exact b0a (k:=0) (by omega) rfl))) ?_
 refine xe 22 ?_
 refine zN ?_
 refine zc (zH (zn ?_))
 refine ym (fun h3=> ?_) (fun h3=> ?_)<;>(try simp only[vU]at h3)
 ·have e:d0d b=(0,4):=by unfold d0d;rw[if_neg (by omega),if_neg (by omega),if_pos ⟨by omega,u8_eq.1 (by simpa using h3.2)⟩]
  rw[e]
  refine zC (zq ?_)
  refine zc ?_
  refine zc (zH (zn (y3 ?_)))
  refine wg (xh ?_)
  refine xG
 have e:d0d b=((beVal b:Int),0):=by
  unfold d0d
  rw[if_neg (by omega),if_neg (by omega),if_neg]
  rintro⟨h4,h5⟩
  exact h3 (by omega) (by rw[h5];rfl)
 rw[e]
 refine yU (xA (zn (zC (zq ?_))))
 refine zc (zH (zn (zC (zC (zq ?_)))))
 refine zb ?_
 refine zZ ?_
 refine zb (zH (zn (xb ?_)))
 refine xT [(25,_),(26,_)] (fun nn E H=> ∃(k:Nat),(k≤b.length)∧(beVal (b.take k)<256^k)∧nn=b.length-k∧E= [(4,.val (.int .i64 (beVal (b.take k):Int))),(27,.val (.int .i64 (k:Int)))]∧H= []) _ (⟨0,by omega,by simp[beVal],rfl,rfl,rfl⟩) ?_
 rintro nn E H ⟨k,h1,hv,rfl,rfl,rfl⟩
 dsimp only[cA,cN]
 refine zC (zq ?_)
 refine zR (zH (zn (zC ?_)))
 refine ym (fun hlt=> ?_) (fun hlt=> ?_)<;>(try simp only[vU]at hlt)
 ·have hlt':k<b.length:=by omega
  have hx:=b0t (bt b k)
  have hv2:beVal (b.take k)<4294967296:=Nat.lt_of_lt_of_le hv (Nat.le_trans (Nat.pow_le_pow_right (by decide) (show k≤4 by omega)) (by decide))
  have hs:beVal (b.take (k+1))=beVal (b.take k)*256+(bt b k).toNat:=by rw[i0O hlt',d0h]
  refine yU (zn (zC (xb (zC (zq ?_)))))
  refine yf ?_
  refine vO vA ?_
  refine zc (zH (zn (zq ?_)))
  refine zb ?_
  refine vO (O.shlK 8 256 rfl rfl rfl rfl (by rfl) (by exact d0Z (by omega))) ?_
  refine zb ?_
  refine xM ?_
  refine vO (O.or_ rfl rfl rfl (m0W 8 (m:=256) (by decide) (by omega) (by omega))) ?_
  refine zc (zH (xA (zn (zq ?_))))
  refine zx ?_
  refine zb (zH ?_)
  refine xP _ _ _ (by omega) (⟨k+1,by omega,by rw[hs,Nat.pow_succ];omega,rfl,by rw[hs,Int.natCast_add,Int.natCast_mul],rfl⟩)
 obtain rfl:k=b.length:=by omega
 rw[List.take_length]
 refine wm ?_
 refine xY ?_
 refine wa ?_
 refine xq (zn (zC (zq ?_)))
 refine zb ?_
 refine zc ?_
 refine zc (zH (zn (y3 ?_)))
 refine xG
theorem k0T (b:List UInt8):Sp Tryz.prog 130 [roB b] [] (Is (.tup [.val (.int .i64 (d0d b).1),.val (.int .i64 (d0d b).2)])):=by
 refine yH Tryz.func130 _ Tryz.ntmps130 (fun w0 R0=> ?_)
 refine zC (zq ?_)
 refine zc ?_
 refine zc (zH (zn (zC (xb (zC (zq ?_))))))
 refine zb ?_
 refine zZ ?_
 refine yi ?_
 refine zc (zH (zn ?_))
 refine ym (fun h=> ?_) (fun h=> ?_)<;>(try simp only[vU]at h)
 ·have e:d0d b=(0,2):=by unfold d0d;rw[if_pos (by omega)]
  rw[e]
  refine zC (zq ?_)
  refine zc ?_
  refine zc (zH (zn (y3 ?_)))
  refine wg (xh ?_)
  refine xG
 refine zC (zq ?_)
 refine zb ?_
 refine zZ ?_
 refine yN ?_
 refine zc (zH (zn ?_))
 refine ym (fun h2=> ?_) (fun h2=> ?_)<;>(try simp only[vU]at h2)
 ·have e:d0d b=(0,8):=by unfold d0d;rw[if_neg (by omega),if_pos (by omega)]
  rw[e]
  refine zC (zq ?_)
  refine zc ?_
  refine zc (zH (zn (y3 ?_)))
  refine wg (xh ?_)
  refine xG
 refine zC (zq ?_)
 refine zb ?_
 refine zZ ?_
 refine yN ?_
 refine zb ?_
 refine yl ?_
 refine AO.opG rfl rfl rfl (fun hp=>wP 20 rfl (by exact hp) yd) ?_
 refine AO.opG rfl rfl rfl (fun hp=>wP 21 rfl (by exact hp) (O.loadR rfl rfl (by exact b0a (k:=0) (by omega) rfl))) ?_
 refine xe 22 ?_
 refine zN ?_
 refine zc (zH (zn ?_))
 refine ym (fun h3=> ?_) (fun h3=> ?_)<;>(try simp only[vU]at h3)
 ·have e:d0d b=(0,4):=by unfold d0d;rw[if_neg (by omega),if_neg (by omega),if_pos ⟨by omega,u8_eq.1 (by simpa using h3.2)⟩]
  rw[e]
  refine zC (zq ?_)
  refine zc ?_
  refine zc (zH (zn (y3 ?_)))
  refine wg (xh ?_)
  refine xG
 have e:d0d b=((beVal b:Int),0):=by
  unfold d0d
  rw[if_neg (by omega),if_neg (by omega),if_neg]
  rintro⟨h4,h5⟩
  exact h3 (by omega) (by rw[h5];rfl)
 rw[e]
 refine yU (xA (zn (zC (zq ?_))))
 refine zc (zH (zn (zC (zC (zq ?_)))))
 refine zb ?_
 refine zZ ?_
 refine zb (zH (zn (xb ?_)))
 refine xT [(25,_),(26,_)] (fun nn E H=> ∃(k:Nat),(k≤b.length)∧(beVal (b.take k)<256^k)∧nn=b.length-k∧E= [(4,.val (.int .i64 (beVal (b.take k):Int))),(27,.val (.int .i64 (k:Int)))]∧H= []) _ (⟨0,by omega,by simp[beVal],rfl,rfl,rfl⟩) ?_
 rintro nn E H ⟨k,h1,hv,rfl,rfl,rfl⟩
 dsimp only[cA,cN]
 refine zC (zq ?_)
 refine zR (zH (zn (zC ?_)))
 refine ym (fun hlt=> ?_) (fun hlt=> ?_)<;>(try simp only[vU]at hlt)
 ·have hlt':k<b.length:=by omega
  have hx:=b0t (bt b k)
  have hv2:beVal (b.take k)<4294967296:=Nat.lt_of_lt_of_le hv (Nat.le_trans (Nat.pow_le_pow_right (by decide) (show k≤4 by omega)) (by decide))
  have hs:beVal (b.take (k+1))=beVal (b.take k)*256+(bt b k).toNat:=by rw[i0O hlt',d0h]
  refine yU (zn (zC (xb (zC (zq ?_)))))
  refine yf ?_
  refine vO vA ?_
  refine zc (zH (zn (zq ?_)))
  refine zb ?_
  refine wL ?_
  refine zb ?_
  refine xM ?_
  refine zx ?_
  refine zc (zH (xA (zn (zq ?_))))
  refine zx ?_
  refine zb (zH ?_)
  refine xP _ _ _ (by omega) (⟨k+1,by omega,by rw[hs,Nat.pow_succ];omega,rfl,by rw[hs,Int.natCast_add,Int.natCast_mul],rfl⟩)
 obtain rfl:k=b.length:=by omega
 rw[List.take_length]
 refine wm ?_
 refine xY ?_
 refine wa ?_
 refine xq (zn (zC (zq ?_)))
 refine zb ?_
 refine zc ?_
 refine zc (zH (zn (y3 ?_)))
 refine xG
structure Cmp where
 piv:Int
 hasKid:Bool
 kid:List UInt8
 hasCtx:Bool
 ctx:List UInt8
 group:Bool
 deriving DecidableEq
abbrev s0X (c:Cmp):AV:= .agg [.val (.int .i64 c.piv),.val (.bool c.hasKid),roB c.kid,.val (.bool c.hasCtx),roB c.ctx,.val (.bool c.group)]
def o0f (c:Cmp):Prop:=(-1≤c.piv∧c.piv≤1099511627775∧(c.kid.length:Int)≤7∧(c.ctx.length:Int)≤16)∧(c.hasKid=true∨(c.kid.length:Int)=0)∧(c.hasCtx=true∨(c.ctx.length:Int)=0)
instance (c:Cmp):Decidable (o0f c):=by unfold o0f;infer_instance
theorem k0Y (c:Cmp):Sp Tryz.prog 73 [s0X c] [] (Is (.val (.bool (decide (o0f c))))):=by
 obtain⟨piv,hk,kid,hc,ctx,g⟩:=c
 refine yH Tryz.func73 _ Tryz.ntmps73 (fun w0 R0=> ?_)
 refine zC (zq ?_)
 refine z9 ?_
 intro B
 refine zc (zH (zn (zC (zq ?_))))
 refine zt ?_
 refine zA ?_
 refine xR ?_
 refine zb ?_
 refine zK ?_
 refine zu 7 ?_
 refine xr 8 ?_
 refine zN ?_
 refine zb ?_
 refine zK ?_
 refine zu 12 ?_
 refine yg 13 ?_
 refine xr 14 ?_
 refine zN ?_
 refine zb ?_
 refine zK ?_
 refine zu 18 ?_
 refine wG 19 ?_
 refine zK ?_
 refine zu 21 ?_
 refine yg 22 ?_
 refine xe 23 ?_
 refine AO.opG rfl rfl rfl (fun hp=>wP 20 rfl (by exact hp) (O.pickOr rfl rfl rfl rfl (fun h=>by simp_all))) ?_
 refine zN ?_
 refine zb ?_
 refine zK ?_
 refine zu 28 ?_
 refine yg 29 ?_
 refine xr 30 ?_
 refine zN ?_
 refine zb ?_
 refine zK ?_
 refine zu 34 ?_
 refine wG 35 ?_
 refine zK ?_
 refine zu 37 ?_
 refine yg 38 ?_
 refine xe 39 ?_
 refine AO.opG rfl rfl rfl (fun hp=>wP 36 rfl (by exact hp) (O.pickOr rfl rfl rfl rfl (fun h=>by simp_all))) ?_
 refine zN ?_
 refine zc (zH (zn (y3 ?_)))
 have e:decide (o0f ⟨piv,hk,kid,hc,ctx,g⟩)=(decide (-1≤piv)&&decide (piv≤1099511627775)&&decide ((kid.length:Int)≤7)&&(hk||((kid.length:Int)==0))&&decide ((ctx.length:Int)≤16)&&(hc||((ctx.length:Int)==0))):=by
  refine g0K ?_
  simp only[o0f,cQ,Bool.and_eq_true,Bool.or_eq_true,beq_iff_eq]
  constructor
  ·exact fun h=>⟨⟨⟨⟨⟨h.1.1,h.1.2.1⟩,h.1.2.2.1⟩,h.2.1⟩,h.1.2.2.2⟩,h.2.2⟩
  exact fun h=>⟨⟨h.1.1.1.1.1,h.1.1.1.1.2,h.1.1.1.2,h.1.2⟩,h.1.1.2,h.2⟩
 refine vm rfl rfl nS (⟨congrArg (fun z=>AV.val (.bool z)) e.symm,rfl⟩)
def flg (c:Cmp):Int:=(b0N c.piv).length+(if c.hasKid then 8 else 0)+(if c.hasCtx then 16 else 0)+(if c.group then 32 else 0)
def u0b (c:Cmp):List UInt8:=u8 (flg c)::b0N c.piv++(if c.hasCtx then u8 c.ctx.length::c.ctx else [])++c.kid
def g0j (c:Cmp):List UInt8×Int:=if ¬o0f c then([],1)else if flg c=0 then([],0)else(u0b c,0)
theorem t0Y {c:Cmp}(h:o0f c):0≤flg c∧flg c≤61:=by
 have:=d0a c.piv
 unfold flg
 (repeat' split)<;>omega
theorem i0D: ∀(n:Nat) (out:List UInt8),out≠ []→l0D n out≠ []:=by
 intro n
 induction n using Nat.strongRecOn with
 |_ n ih=>
  intro out h
  by_cases h0:n=0
  ·subst h0;rw[a0U];exact h
  rw[a0T h0];exact ih _ (Nat.div_lt_self (by omega) (by omega)) _ (by simp)
theorem p0b {n:Int}(h:n≤1099511627775):(b0N n).length=0↔n<0:=by
 unfold b0N
 split
 ·simp;omega
 have:=i0D (n.toNat/256) [u8 n] (by simp)
 constructor
 ·intro h;exact absurd (List.eq_nil_of_length_eq_zero h) this
 intro h;omega
theorem i0X (c:Cmp):Sp Tryz.prog 23 [s0X c] [] (Is (.tup [roB (g0j c).1,.val (.int .i64 (g0j c).2)])):=by
 have hfl:=t0Y (c:=c)
 have hpl:=d0a c.piv
 obtain⟨piv,hk,kid,hc,ctx,g⟩:=c
 refine yH Tryz.func23 _ Tryz.ntmps23 (fun w0 R0=> ?_)
 refine zC (zq ?_)
 refine z9 ?_
 intro B
 refine zc ?_
 refine zc (zH (zn (zC (zC (zq ?_)))))
 refine zI ?_
 refine vO (xD rfl Tryz.func73 rfl rfl rfl (k0Y ⟨_,_,_,_,_,_⟩)) ?_
 refine xo (zH (zn ?_))
 refine ym (fun h=> ?_) (fun h=> ?_)<;>(try simp only[vU]at h)
 ·have e:g0j ⟨piv,hk,kid,hc,ctx,g⟩=([],1):=by unfold g0j;rw[if_pos h]
  rw[e]
  refine zC (zq ?_)
  refine zc ?_
  refine zc (zH (zn (y3 (xh ?_))))
  refine AQ.g ?_
  refine G.nilRo 2 rfl ?_
  refine AQ.u ?_
  try dsimp only[List.map,List.eraseIdx,cA,cN]
  refine xG
 have hfl:=hfl h
 have e:g0j ⟨piv,hk,kid,hc,ctx,g⟩=if flg ⟨piv,hk,kid,hc,ctx,g⟩=0 then([],0)else(u0b ⟨piv,hk,kid,hc,ctx,g⟩,0):=by unfold g0j;rw[if_neg (by simpa using h)]
 rw[e]
 obtain⟨⟨a1,a2,a3,a4⟩, -⟩:=h
 simp only at*
 have hnil:=p0b a2
 have hnil':b0N piv= []↔piv<0:=by rw[←List.length_eq_zero_iff];exact hnil
 have hz0:flg ⟨piv,hk,kid,hc,ctx,g⟩=0↔(piv= -1∧hk=false∧hc=false∧g=false):=by
  unfold flg
  cases hk<;>cases hc<;>cases g<;>simp[hnil']<;>omega
 refine yU (zn (zC (zC (zq ?_))))
 refine zt ?_
 refine zA ?_
 refine yi ?_
 refine zb ?_
 refine zK ?_
 refine zu 14 ?_
 refine xf 15 ?_
 refine zN ?_
 refine zb ?_
 refine zK ?_
 refine zu 19 ?_
 refine xf 20 ?_
 refine zN ?_
 refine zb ?_
 refine zK ?_
 refine zu 24 ?_
 refine xf 25 ?_
 refine zN (zH (zn ?_))
 refine ym (fun hz=> ?_) (fun hz=> ?_)
 ·have hz:flg ⟨piv,hk,kid,hc,ctx,g⟩=0:=hz0.2 (by simpa[and_assoc]using hz)
  rw[if_pos hz]
  refine zC (zq ?_)
  refine zc ?_
  refine zc (zH (zn (y3 (xh ?_))))
  refine AQ.g ?_
  refine G.nilRo 2 rfl ?_
  refine AQ.u ?_
  try dsimp only[List.map,List.eraseIdx,cA,cN]
  refine xG
 have hz: ¬flg ⟨piv,hk,kid,hc,ctx,g⟩=0:=fun e=>by
  obtain⟨rfl,rfl,rfl,rfl⟩:=hz0.1 e
  simp at hz
 rw[if_neg hz]
 obtain⟨n,hn⟩: ∃n:Int,n=(b0N piv).length:=⟨_,rfl⟩
 refine yU (zn (zC (zq ?_)))
 refine zt ?_
 refine zA ?_
 refine vO (xD rfl Tryz.func74 rfl rfl rfl (h0R _)) ?_
 refine zc (zH (zn (zC (zq ?_))))
 refine zb ?_
 refine zZ ?_
 refine zc (zH (zn (zC (zC (zq ?_)))))
 refine zt ?_
 refine zA (zH (zn ?_))
 simp only[←hn]
 refine wh True [(1,_),(4,_)] [(5,.val (.int .i64 (bif hk then n+8 else n)))] [.blk B 52 6 [.val (.int .i64 piv),.val (.bool hk),roB kid,.val (.bool hc),roB ctx,.val (.bool g)]] (fun hb=> ?_) (fun hb=> ?_) (fun hj=> ?_)<;>try(try simp only[vU]at hb)
 ·subst hb
  refine zq ?_
  refine zb ?_
  refine zx ?_
  refine zc (zH ?_)
  refine yK
 ·subst hb
  refine yU ?_
  refine yK
 dsimp only[cA,cN]
 refine zn ?_
 obtain⟨n1,hn1⟩: ∃n1:Int,n1=bif hk then n+8 else n:=⟨_,rfl⟩
 have b1:0≤n1∧n1≤13:=by rw[hn1];cases hk<;>simp<;>omega
 rw[←hn1]
 refine zC (zC (zq ?_))
 refine zt ?_
 refine zA (zH (zn ?_))
 refine wh True [(1,_),(4,_)] [(5,.val (.int .i64 (bif hc then n1+16 else n1)))] [.blk B 52 6 [.val (.int .i64 piv),.val (.bool hk),roB kid,.val (.bool hc),roB ctx,.val (.bool g)]] (fun hb=> ?_) (fun hb=> ?_) (fun hj=> ?_)<;>try(try simp only[vU]at hb)
 ·subst hb
  refine zq ?_
  refine zb ?_
  refine zx ?_
  refine zc (zH ?_)
  refine yK
 ·subst hb
  refine yU ?_
  refine yK
 dsimp only[cA,cN]
 refine zn ?_
 obtain⟨n2,hn2⟩: ∃n2:Int,n2=bif hc then n1+16 else n1:=⟨_,rfl⟩
 have b2:0≤n2∧n2≤29:=by rw[hn2];cases hc<;>simp<;>omega
 rw[←hn2]
 refine zC (zC (zq ?_))
 refine zt ?_
 refine zA (zH (zn ?_))
 refine wh True [(1,_),(4,_)] [(5,.val (.int .i64 (bif g then n2+32 else n2)))] [.blk B 52 6 [.val (.int .i64 piv),.val (.bool hk),roB kid,.val (.bool hc),roB ctx,.val (.bool g)]] (fun hb=> ?_) (fun hb=> ?_) (fun hj=> ?_)<;>try(try simp only[vU]at hb)
 ·subst hb
  refine zq ?_
  refine zb ?_
  refine zx ?_
  refine zc (zH ?_)
  refine yK
 ·subst hb
  refine yU ?_
  refine yK
 dsimp only[cA,cN]
 refine zn ?_
 have hf:(bif g then n2+32 else n2)=flg ⟨piv,hk,kid,hc,ctx,g⟩:=by
  rw[hn2,hn1,hn];unfold flg;cases hk<;>cases hc<;>cases g<;>simp
 rw[hf]
 have e2:u0b ⟨piv,hk,kid,hc,ctx,g⟩=u8 (flg ⟨piv,hk,kid,hc,ctx,g⟩)::b0N piv++(if hc then u8 ctx.length::ctx else [])++kid:=rfl
 rw[e2]
 obtain⟨f,hfd⟩: ∃f,f=flg ⟨piv,hk,kid,hc,ctx,g⟩:=⟨_,rfl⟩
 rw[←hfd]at hfl⊢
 refine zC (zq ?_)
 refine zb ?_
 refine y4 ?_
 refine zU ?_
 intro B
 refine AO.g ?_
 refine xK B 1 1 0 rfl rfl rfl (Nat.le_refl _) ?_
 refine AO.u ?_
 dsimp only[List.set]
 refine zb ?_
 refine zF 0 ?_
 intro V hV
 refine zc (zH (zn (zC (zC (zq ?_)))))
 refine zt ?_
 refine zp (zH (zn ?_))
 refine ym (fun hb=> ?_) (fun hb=> ?_)
 ·subst hb
  refine zC (zq ?_)
  refine zb ?_
  refine zt ?_
  refine zp ?_
  refine zZ ?_
  refine y4 ?_
  refine zU ?_
  intro B
  refine AO.g ?_
  refine yr 0 57 ?_
  refine wH 57 ?_
  refine AO.u ?_
  dsimp only[List.eraseIdx]
  refine zB 0 ?_
  intro V hV
  refine zc (zH (zn (zq ?_)))
  refine zb ?_
  refine zt ?_
  refine zp ?_
  refine zF 0 ?_
  intro V hV
  refine zc (zH (zn (zC (zq ?_))))
  refine zb ?_
  refine zt ?_
  refine zp ?_
  refine xw 0 ?_
  intro V hV
  refine zc ?_
  refine zc (zH (zn (y3 ?_)))
  refine AQ.g ?_
  refine yj 0 [2] ?_
  refine AQ.u ?_
  try dsimp only[List.map,List.eraseIdx,cA,cN]
  refine AQ.ret2 rfl rfl rfl nS (⟨congrArg (fun z=>AV.tup [z,.val (.int .i64 0)]) (b0r (by simp;omega) (by simp[a0a])),rfl⟩)
 subst hb
 refine yU (zn (zC (zq ?_)))
 refine zb ?_
 refine zt ?_
 refine zp ?_
 refine xw 0 ?_
 intro V hV
 refine zc ?_
 refine zc (zH (zn (y3 ?_)))
 refine AQ.g ?_
 refine yj 0 [2] ?_
 refine AQ.u ?_
 try dsimp only[List.map,List.eraseIdx,cA,cN]
 refine AQ.ret2 rfl rfl rfl nS (⟨congrArg (fun z=>AV.tup [z,.val (.int .i64 0)]) (b0r (by simp;omega) (by simp[a0a])),rfl⟩)
end Go.Proofs.YtojomcdjcpmnkaaGreat.By
