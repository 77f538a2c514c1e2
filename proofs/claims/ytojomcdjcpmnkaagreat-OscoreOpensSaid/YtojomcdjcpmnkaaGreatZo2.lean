/-
  Texts laid together (part 2): what the statement's walk and plain law need. No condition.
-/
import Derived.Laws.BytesArg
import Derived.Lib.SliceRun
import Derived.Laws.StructEq
import Derived.Laws.MakeOwn
import Derived.Laws.IdiomStrings
import Derived.Lib.EndianBits
import Derived.Test.YtojomcdjcpmnkaaGreatZo1
set_option linter.unusedVariables false
set_option linter.unusedSimpArgs false
set_option maxRecDepth 20000
set_option maxHeartbeats 4000000
namespace Go.Proofs.YtojomcdjcpmnkaaGreat.A
open Go.RowKit L
abbrev Ch:=List (Nat×(AV→List HE→Prop))
def rst (E:Env):List Nat→Env
 | []=> []
 |t::r=>match a0r E t with
  |some v=>(t,v)::rst E r
  |none=>rst E r
theorem d0b {E:Env}{t:Nat}{v:AV}: ∀{ts:List Nat},a0r (rst E ts) t=some v→t∈ts∧a0r E t=some v
 | [],h=>by cases h
 | s::r,h=>by
  unfold rst at h
  split at h
  ·rename_i w hw
   unfold a0r at h
   cases hb:Nat.beq s t with
   |true=>
    rw[hb]at h
    cases h
    have:=Nat.eq_of_beq_eq_true hb
    subst this
    exact⟨List.mem_cons_self ..,hw⟩
   |false=>
    rw[hb]at h
    obtain⟨h1,h2⟩:=d0b h
    exact⟨List.mem_cons_of_mem _ h1,h2⟩
  ·obtain⟨h1,h2⟩:=d0b h
   exact⟨List.mem_cons_of_mem _ h1,h2⟩
theorem i0k {A B:Env}{t:Nat}{v:AV}(h:a0r (A++B) t=some v):a0r A t=some v∨(a0r A t=none∧a0r B t=some v):=by
 induction A with
 |nil=>exact .inr ⟨rfl,h⟩
 |cons p r ih=>
  rw[cA]at h
  simp only[a0r]at h⊢
  cases hb:Nat.beq p.1 t with
  |true=>rw[hb]at h;exact .inl h
  |false=>rw[hb]at h;exact ih h
theorem f0H {D:Nat→Nat}{v:Nat→AV}{t:Nat}{w:AV}: ∀{is:List Nat},a0r (is.map fun i=>(D i,v i)) t=some w→ ∃i∈is,D i=t∧w=v i
 | [],h=>by cases h
 | i::r,h=>by
  rw[List.map_cons]at h
  unfold a0r at h
  cases hb:Nat.beq (D i) t with
  |true=>rw[hb]at h;cases h;exact⟨i,List.mem_cons_self ..,Nat.eq_of_beq_eq_true hb,rfl⟩
  |false=>
   rw[hb]at h
   obtain⟨j,h1,h2⟩:=f0H h
   exact⟨j,List.mem_cons_of_mem _ h1,h2⟩
theorem b0Z {D:Nat→Nat}{v:Nat→AV}{t:Nat}: ∀{is:List Nat},a0r (is.map fun i=>(D i,v i)) t=none→ ∀i∈is,D i≠t
 | [],_,i,hi=>by cases hi
 | j::r,h,i,hi=>by
  rw[List.map_cons]at h
  unfold a0r at h
  cases hb:Nat.beq (D j) t with
  |true=>rw[hb]at h;cases h
  |false=>
   rw[hb]at h
   rcases List.mem_cons.1 hi with rfl|hi
   ·intro e;rw[e]at hb;simp at hb
   ·exact b0Z h i hi
def FA (P:Program)(N:Nat)(ops:Array Oper)(E0:Env)(H0:List HE)(K:Env→Ch→Prop):Env→Ch→List Oper→Prop
  |ex,nx,[]=>K ex nx
  | ex,nx,o::rest=> ∃d,o.dst=some d∧d<N∧(nx.all fun p=> !(o.looksAt ops).contains p.1)=true∧
      ((∃v,OpF P N ops o (rst (ex++E0) (o.looksAt ops)) H0 (Is v)∧FA P N ops E0 H0 K ((d,v)::ex) nx rest)∨
       (∃Φ,OpF P N ops o (rst (ex++E0) (o.looksAt ops)) H0 Φ∧FA P N ops E0 H0 K ex ((d,Φ)::nx) rest))
def a0h:Ch→(Env→List HE→Prop)→Prop
 | [],F=>F [] []
 |(d,Φ)::r,F=> ∀v Hn,Φ v Hn→a0h r fun E H=>F ((d,v)::E) (Hn++H)
theorem h0B {D:Nat→Nat}{Ψ:Nat→AV→List HE→Prop}{v:Nat→AV}{Hn:Nat→List HE}: ∀{is:List Nat} {F:Env→List HE→Prop},a0h (is.map fun i=>(D i,Ψ i)) F→(∀i∈is,Ψ i (v i) (Hn i))→F (is.map fun i=>(D i,v i)) (is.flatMap Hn)
 | [],F,h,_=>h
 |i::r,F,h,hi=>by
  rw[List.map_cons]at h
  exact h0B (is:=r) (h (v i) (Hn i) (hi i (List.mem_cons_self ..))) fun j hj=>hi j (List.mem_cons_of_mem _ hj)
def idx (p:Nat→Bool)(n:Nat):List Nat:=((List.range n).filter p).reverse
theorem mem_idx {p:Nat→Bool}{n i:Nat}:i∈idx p n↔i<n∧p i=true:=by simp[idx]
theorem f0J (p:Nat→Bool)(n:Nat):idx p (n+1)=if p n=true then n::idx p n else idx p n:=by
 unfold idx
 rw[List.range_succ,List.filter_append]
 by_cases h:p n=true<;>simp[h]
theorem p0h {p q:Nat→Bool}{n:Nat}(h: ∀i,i<n→p i=q i):idx p n=idx q n:=by
 unfold idx
 congr 1
 exact List.filter_congr fun i hi=>h i (List.mem_range.1 hi)
theorem b0H {α:Type}{p q:Nat→Bool}{f g:Nat→α}{n:Nat}(h: ∀i,i<n→p i=q i)(h': ∀i,i<n→f i=g i):(idx p n).map f=(idx q n).map g:=by
 rw[p0h h]
 exact List.map_congr_left fun i hi=>h' i (mem_idx.1 hi).1
theorem p0g (p:Nat→Bool)(n:Nat):(idx p n).Pairwise (· ≠ ·):=by
 unfold idx
 rw[List.pairwise_reverse]
 have:((List.range n).filter p).Pairwise (· ≠ ·):=(List.nodup_range (n:=n)).sublist List.filter_sublist
 exact this.imp fun h=>h.symm
section
variable {P:Program}{N:Nat}{ops:Array Oper}{E0:Env}{H0:List HE}
structure Facts (P:Program) (N:Nat) (ops:Array Oper) (E0:Env) (H0:List HE) (D:Nat→Nat) (X:Nat→Bool) (V:Nat→AV) (Ψ:Nat→AV→List HE→Prop) (i:Nat) (o:Oper):Prop where
 dst:o.dst=some (D i)
 lt:D i<N
 exact:X i=true→Ψ i=Is (V i)
 far: ∀j,j<i→X j=false→D j∉o.looksAt ops
 run:OpF P N ops o (rst ((idx X i).map (fun i=>(D i,V i))++E0) (o.looksAt ops)) H0 (Ψ i)
theorem l0W {K:Env→Ch→Prop}: ∀(l:List Oper) (k:Nat) (D:Nat→Nat) (X:Nat→Bool) (V:Nat→AV) (Ψ:Nat→AV→List HE→Prop),
  (∀j,l[j]? =if j<l.length then ops[k+j]?else none)→FA P N ops E0 H0 K ((idx X k).map fun i=>(D i,V i)) ((idx (fun i=> !X i) k).map fun i=>(D i,Ψ i)) l→
  ∃(D':Nat→Nat) (X':Nat→Bool) (V':Nat→AV) (Ψ':Nat→AV→List HE→Prop),(∀i,i<k→D' i=D i∧X' i=X i∧V' i=V i∧Ψ' i=Ψ i)∧
   K ((idx X' (k+l.length)).map fun i=>(D' i,V' i)) ((idx (fun i=> !X' i) (k+l.length)).map fun i=>(D' i,Ψ' i))∧
   ∀i,k≤i→i<k+l.length→ ∀o,ops[i]? =some o→Facts P N ops E0 H0 D' X' V' Ψ' i o
 | [],k,D,X,V,Ψ,_,h=>⟨D,X,V,Ψ,fun _ _=>⟨rfl,rfl,rfl,rfl⟩,h,fun i h1 h2=>by simp at h2;omega⟩
 | o ::rest,k,D,X,V,Ψ,hl,h=>by
  obtain⟨d,hd,hdN,hnx,h⟩:=h
  have h0:ops[k]? =some o:=by have:=hl 0;simpa using this.symm
  have hl': ∀j,rest[j]? =if j<rest.length then ops[k+1+j]?else none:=fun j=>by have:=hl (j+1);simpa[Nat.add_assoc,Nat.add_comm 1 j]using this
  have hfar: ∀j,j<k→X j=false→D j∉o.looksAt ops:=fun j hj hx hm=>by
   have:=List.all_eq_true.1 hnx (D j,Ψ j) (List.mem_map.2 ⟨j,mem_idx.2 ⟨hj,by simp[hx]⟩,rfl⟩)
   simp at this
   exact this hm
  have step: ∀(x:Bool) (v:AV) (Φ:AV→List HE→Prop),(x=true→Φ=Is v)→OpF P N ops o (rst ((idx X k).map (fun i=>(D i,V i))++E0) (o.looksAt ops)) H0 Φ→
    FA P N ops E0 H0 K ((idx (fun i=>if i=k then x else X i) (k+1)).map fun i=>((fun i=>if i=k then d else D i) i,(fun i=>if i=k then v else V i) i)) ((idx (fun i=> !(fun i=>if i=k then x else X i) i) (k+1)).map fun i=>((fun i=>if i=k then d else D i) i,(fun i=>if i=k then Φ else Ψ i) i)) rest→
    ∃(D':Nat→Nat) (X':Nat→Bool) (V':Nat→AV) (Ψ':Nat→AV→List HE→Prop),(∀i,i<k→D' i=D i∧X' i=X i∧V' i=V i∧Ψ' i=Ψ i)∧
     K ((idx X' (k+(o::rest).length)).map fun i=>(D' i,V' i)) ((idx (fun i=> !X' i) (k+(o::rest).length)).map fun i=>(D' i,Ψ' i))∧
     ∀i,k≤i→i<k+(o::rest).length→ ∀o,ops[i]? =some o→Facts P N ops E0 H0 D' X' V' Ψ' i o:=by
   intro x v Φ hx hop hfa
   obtain⟨D',X',V',Ψ',hs,hK,hall⟩:=l0W rest (k+1) (fun i=>if i=k then d else D i) (fun i=>if i=k then x else X i) (fun i=>if i=k then v else V i) (fun i=>if i=k then Φ else Ψ i) hl' hfa
   have hk:=hs k (by omega)
   simp only[if_true]at hk
   have hlt: ∀i,i<k→D' i=D i∧X' i=X i∧V' i=V i∧Ψ' i=Ψ i:=fun i hi=>by
    have:=hs i (by omega)
    have hne:i≠k:=by omega
    simpa[hne]using this
   refine⟨D',X',V',Ψ',hlt,by rw[show k+(o::rest).length=k+1+rest.length by simp;omega];exact hK,fun i h1 h2 o' ho'=> ?_⟩
   by_cases hik:i=k
   ·subst hik
    obtain rfl:o=o':=by rw[h0]at ho';exact Option.some.inj ho'
    refine⟨by rw[hd,hk.1],by rw[hk.1];exact hdN,fun hX=> ?_,fun j hj hxj=> ?_,?_⟩
    ·rw[hk.2.2.2,hk.2.2.1];exact hx (by rw[←hk.2.1];exact hX)
    ·rw[(hlt j hj).1];exact hfar j hj (by rw[←(hlt j hj).2.1];exact hxj)
    ·rw[hk.2.2.2,b0H (q:=X) (g:=fun i=>(D i,V i)) (fun j hj=>(hlt j hj).2.1) (fun j hj=>by rw[(hlt j hj).1,(hlt j hj).2.2.1])]
     exact hop
   ·exact hall i (by omega) (by simp at h2;omega) o' ho'
  rcases h with⟨v,hop,hfa⟩|⟨Φ,hop,hfa⟩
  ·refine step true v (Is v) (fun _=>rfl) hop ?_
   rw[f0J,if_pos (by simp),f0J,if_neg (by simp),List.map_cons,
    b0H (q:=X) (g:=fun i=>(D i,V i)) (fun j hj=>by simp[show j≠k by omega]) (fun j hj=>by simp[show j≠k by omega]),
    b0H (q:=fun i=> !X i) (g:=fun i=>(D i,Ψ i)) (fun j hj=>by simp[show j≠k by omega]) (fun j hj=>by simp[show j≠k by omega])]
   simpa using hfa
  ·refine step false (.val undef) Φ (fun h=>by cases h) hop ?_
   rw[f0J,if_neg (by simp),f0J,if_pos (by simp),List.map_cons,
    b0H (q:=X) (g:=fun i=>(D i,V i)) (fun j hj=>by simp[show j≠k by omega]) (fun j hj=>by simp[show j≠k by omega]),
    b0H (q:=fun i=> !X i) (g:=fun i=>(D i,Ψ i)) (fun j hj=>by simp[show j≠k by omega]) (fun j hj=>by simp[show j≠k by omega])]
   simpa using hfa
theorem Anc.trans {i j k:Nat}(h:Anc ops i j)(h':Anc ops j k):Anc ops i k:=by
 induction h with
 |self i=>exact h'
 |step i j _ o e ho he hb hj _ ih=>exact .step i j k o e ho he hb hj (ih h')
def Phi (ops:Array Oper)(w0:World)(R:Nat→Prop)(X:Nat→Bool)(Ψ:Nat→AV→List HE→Prop)(i:Nat):Pr2:=fun lo hi u W=>
 w0.heap.size≤W.heap.size∧ ∃v Hn R1,Ψ i v Hn∧(∀b,R b→R1 b)∧(∀b,R1 b→R b∨ ∃k,Anc ops i k∧(X k=true∨k=i)∧lo k≤b∧b<hi k)∧RelV R1 W v u∧
  (∀e∈Hn,e.ok R1 W∧ ∀b,e.foot b→lo i≤b∧b<hi i∧ ¬R1 b)∧Hn.Pairwise Disj
theorem AW.regionD {Γ:Cx}{Q:Exit→Act→World→Prop}{E:Env}{H:List HE}{id:Nat}{l:List Oper}(n:Nat)(hm:P.follows .mixedOrders=true)(hok:d0v l.toArray n=true)
  (h:FA P Γ.N l.toArray E H (fun ex nx=>a0h nx fun E' H'=>AO Γ P l.toArray Q (l.drop n) (E'++(ex++E)) (H'++H)) [] [] (l.take n)):AW Γ P Q (.region id l.toArray true) E H:=fun R a W hs0 ha0=>by
 have hn:n≤l.length:=by
  simp only[d0v,Bool.and_eq_true,cQ]at hok
  simpa using hok.1
 have hlen:(l.take n).length=n:=by simp[hn]
 obtain⟨D,X,V,Ψ,_,hK,hall⟩:=l0W (l.take n) 0 (fun _=>0) (fun _=>true) (fun _=> .val undef) (fun _ _ _=>True) (fun j=>by
  rw[hlen]
  by_cases hj:j<n
  ·simp[hj]
  ·rw[if_neg hj];exact List.getElem?_eq_none (by rw[hlen];omega)) h
 rw[Nat.zero_add,hlen]at hK
 have hfacts: ∀i,i<n→ ∀o,l.toArray[i]? =some o→Facts P Γ.N l.toArray E H D X V Ψ i o:=fun i hi o ho=>hall i (Nat.zero_le _) (by rw[hlen];omega) o ho
 clear hall
 have hback: ∀i o,l.toArray[i]? =some o→ ∀e∈o.after,Region.binds .any e=true→e.on<i:=fun i o ho e he hb=>c0K (b0s hok ho) e he hb
 have hop: ∀i,i<n→ ∃o,l.toArray[i]? =some o:=fun i hi=>⟨l[i],by simp[show i<l.length by omega]⟩
 have hdist: ∀i j,i<n→j<n→i≠j→D i≠D j:=fun i j hi hj hne=>by
  obtain⟨oi,hoi⟩:=hop i hi
  obtain⟨oj,hoj⟩:=hop j hj
  exact(f0c (b0s hok hoj) hj hi hne hoi (hfacts i hi oi hoi).dst (hfacts j hj oj hoj).dst).1
 have hs:RelS Γ R H W.drew:=⟨hs0.mods.drew,hs0.rlt,hs0.rsub,hs0.rnew,fun e he=>HE.ok_mono (W:=W) (W':=W.drew) (fun _ h=>h) (fun _ _=>rfl) (Nat.le_refl _) (fun _ _=>rfl) (hs0.ok e he),hs0.own,hs0.disj⟩
 have ha:RelA Γ.N R W.drew E a:=ha0.mono (fun _ h=>h) (fun _ _=>rfl)
 have hRlt: ∀b,R b→b<W.drew.heap.size:=hs.rlt
 have hHlt: ∀e∈H,∀b,e.foot b→b<W.drew.heap.size:=fun e he b hb=>HE.ok_lt (hs.ok e he) hb
 obtain⟨w0,hw0⟩: ∃w0,w0=W.drew:=⟨_,rfl⟩
 rw[←hw0]at hs ha hRlt hHlt
 have hflow:m0i P l.toArray w0 a n (Phi l.toArray w0 R X Ψ) D:=by
  intro i hi o ho
  have hF:=hfacts i hi o ho
  refine⟨hF.dst,?_,?_,?_⟩
  ·rintro lo hi' v W W' hb ⟨hle,v1,Hn,R1,h1,h2,h3,h4,h5,h6⟩ hE
   have hRW: ∀b,R1 b→W'.heap[b]? =W.heap[b]? :=fun b hb'=>by
    refine hE.block b ?_ (fun hh=>hh)
    rcases h3 b hb' with hr|⟨k,hk,_,hk1,hk2⟩
    ·have:=hRlt b hr;omega
    ·have:=hb k hk;omega
   exact⟨Nat.le_trans hle hE.size,v1,Hn,R1,h1,h2,h3,h4.mono (fun _ h=>h) hRW,fun e he=>⟨HE.ok_mono (fun _ h=>h) hRW hE.size (fun b hb'=>hE.block b (HE.ok_lt (h5 e he).1 hb') (fun hh=>hh)) (h5 e he).1,(h5 e he).2⟩,h6⟩
  ·rintro lo hi' lo' hi'' v W hag ⟨hle,v1,Hn,R1,h1,h2,h3,h4,h5,h6⟩
   refine⟨hle,v1,Hn,R1,h1,h2,fun b hb=> ?_,h4,fun e he=>⟨(h5 e he).1,fun b hb=> ?_⟩,h6⟩
   ·rcases h3 b hb with hr|⟨k,hk,hk0,hk1,hk2⟩
    ·exact .inl hr
    ·exact .inr ⟨k,hk,hk0,by rw[(hag k hk).1];exact hk1,by rw[(hag k hk).2];exact hk2⟩
   ·rw[(hag i (.self i)).1,(hag i (.self i)).2];exact(h5 e he).2 b hb
  ·intro A W lo hi' hE hsz hdf hdeps hout
   let R2:Nat→Prop:=fun b=>R b∨ ∃j,j<i∧D j∈o.looksAt l.toArray∧ ∃k,Anc l.toArray j k∧X k=true∧lo k≤b∧b<hi' k
   have hXj: ∀j,j<i→D j∈o.looksAt l.toArray→X j=true:=fun j hj hm'=>by
    cases hx:X j with
    |true=>rfl
    |false=>exact absurd hm' (hF.far j hj hx)
   have hR2lt: ∀b,R2 b→b<W.heap.size:=by
    rintro b (hb|⟨j,hj,hjm,k,hk,_,_,hk2⟩)
    ·exact Nat.lt_of_lt_of_le (hRlt b hb) hE.size
    ·have:=((hdeps j hj hjm).2.2 k hk).2;omega
   have hRW: ∀b,R b→W.heap[b]? =w0.heap[b]? :=fun b hb=>hE.block b (hRlt b hb) (fun hh=>hh)
   have hA:RelA Γ.N R2 W (rst ((idx X i).map (fun i=>(D i,V i))++E) (o.looksAt l.toArray)) A:=by
    refine⟨by rw[hdf];exact ha.defers,by rw[hsz];exact ha.size,fun t v ht=> ?_⟩
    obtain⟨htl,ht⟩:=d0b ht
    rcases i0k ht with ht|⟨htn,ht⟩
    ·obtain⟨j,hj,rfl,rfl⟩:=f0H ht
     obtain⟨hji,hjx⟩:=mem_idx.1 hj
     obtain⟨-,⟨-, -, -, -,v1,Hn,R1,h1,h2,h3,h4, -⟩, -⟩:=hdeps j hji htl
     obtain⟨oj,hoj⟩:=hop j (by omega)
     rw[(hfacts j (by omega) oj hoj).exact hjx]at h1
     obtain⟨rfl, -⟩:=h1
     refine h4.mono (fun b hb=> ?_) (fun _ _=>rfl)
     rcases h3 b hb with hr|⟨k,hk,hk0,hk1,hk2⟩
     ·exact .inl hr
     ·refine .inr ⟨j,hji,htl,k,hk,?_,hk1,hk2⟩
      rcases hk0 with hk0|rfl
      ·exact hk0
      ·exact hjx
    ·rw[hout t htl fun j hj e=> ?_]
     ·exact(ha.slots t v ht).mono (fun b hb=> .inl hb) hRW
     ·exact b0Z htn j (mem_idx.2 ⟨hj,hXj j hj (e▸htl)⟩) e
   have hrun:=hF.run R2 A W hR2lt (fun e he=>HE.ok_mono (fun b hb=> .inl hb) hRW hE.size (fun b hb=>hE.block b (hHlt e he b hb) (fun hh=>hh)) (hs.ok e he)) (fun e he b hb hr=>by
    rcases hr with hr|⟨j,hj,hjm,k,hk,_,hk1,_⟩
    ·exact(hs.own e he b hb).2 hr
    ·have h1:=((hdeps j hj hjm).2.2 k hk).1
     have h2:=hHlt e he b hb
     omega) hA
   have post: ∀u W',(∃v Hn R',Ψ i v Hn∧Post1 R2 W v Hn u W' R')→Ext W W'∧ ∀lo2 hi2:Nat→Nat,lo2 i=W.heap.size→hi2 i=W'.heap.size→(∀k,k≠i→lo2 k=lo k∧hi2 k=hi' k)→Phi l.toArray w0 R X Ψ i lo2 hi2 u W':=by
    rintro u W' ⟨v,Hn,R',hΨ,p⟩
    refine⟨p.ext,fun lo2 hi2 e1 e2 e3=>⟨Nat.le_trans hE.size p.ext.size,v,Hn,R',hΨ,fun b hb=>p.sub b (.inl hb),fun b hb=> ?_,p.val,fun e he=>⟨(p.ok e he).1,fun b hb=> ?_⟩,p.disj⟩⟩
    ·rcases p.new b hb with(hr|⟨j,hj,hjm,k,hk,hk0,hk1,hk2⟩)|⟨h1,h2⟩
     ·exact .inl hr
     ·have hki:k≠i:=by have:=p0O hback hk;omega
      refine .inr ⟨k,(hdeps j hj hjm).1.trans hk,.inl hk0,?_,?_⟩
      ·rw[(e3 k hki).1];exact hk1
      ·rw[(e3 k hki).2];exact hk2
     ·exact .inr ⟨i,.self i,.inr rfl,by rw[e1];exact h1,by rw[e2];exact h2⟩
    ·obtain⟨h1,h2⟩:=(p.ok e he).2 b hb
     exact⟨by rw[e1];exact h1,by rw[e2];exact HE.ok_lt (p.ok e he).1 hb,h2⟩
   unfold c0N at hrun⊢
   split
   ·rename_i hw
    rw[if_pos hw]at hrun
    refine Oper.wp_mono ?_ hrun
    rintro A' W' ⟨u,rfl,hp⟩
    exact⟨u,rfl,post u W' hp⟩
   ·rename_i hw
    rw[if_neg hw]at hrun
    exact post _ _ hrun
 refine wp_region_any hm (j0W (n:=n) (Φ:=Phi l.toArray w0 R X Ψ) (D:=D) (w0:=w0) (a:=a) hok (by simpa using hn) (fun i hi=>by
   obtain⟨o,ho⟩:=hop i hi
   rw[ha.size];exact(hfacts i hi o ho).lt) hflow ?_ _ _ _ _ ?_ ⟨by simp,?_,?_,by rw[hw0];exact Mods.refl _ _,rfl,rfl,⟨fun _=>0,fun _=>0,?_,?_⟩,fun _ _=>rfl⟩)
 ·intro A W lo hi hE hsz hdf hgood hdis hout
  have hex: ∀i:Nat,∃q:AV×List HE×(Nat→Prop),i<n→Ψ i q.1 q.2.1∧(∀b,R b→q.2.2 b)∧(∀b,q.2.2 b→R b∨ ∃k,k<n∧(X k=true∨k=i)∧lo k≤b∧b<hi k)∧RelV q.2.2 W q.1 (A.eval (.tmp (D i)))∧
    (∀e∈q.2.1,e.ok q.2.2 W∧ ∀b,e.foot b→lo i≤b∧b<hi i∧ ¬q.2.2 b)∧q.2.1.Pairwise Disj:=fun i=>by
   by_cases hi':i<n
   ·obtain⟨-, -, -, -,v,Hn,R1,h1,h2,h3,h4,h5,h6⟩:=hgood i hi'
    refine⟨(v,Hn,R1),fun _=>⟨h1,h2,fun b hb=> ?_,h4,h5,h6⟩⟩
    rcases h3 b hb with hr|⟨k,hk,hk0,hk1,hk2⟩
    ·exact .inl hr
    ·exact .inr ⟨k,by have:=p0O hback hk;omega,hk0,hk1,hk2⟩
   ·exact⟨(.val undef,[],R),fun h=>absurd h hi'⟩
  obtain⟨f,hf⟩:=Classical.axiomOfChoice hex
  have hlo: ∀i,i<n→w0.heap.size≤lo i∧lo i≤hi i∧hi i≤W.heap.size:=fun i hi'=>⟨(hgood i hi').1,(hgood i hi').2.1,(hgood i hi').2.2.1⟩
  have hV: ∀i,i<n→X i=true→(f i).1=V i∧(f i).2.1= []:=fun i hi' hx=>by
   obtain⟨o,ho⟩:=hop i hi'
   have:=(hf i hi').1
   rw[(hfacts i hi' o ho).exact hx]at this
   exact this
  have hAO:=h0B (v:=fun i=>(f i).1) (Hn:=fun i=>(f i).2.1) hK (fun i hi'=>(hf i (mem_idx.1 hi').1).1)
  let R3:Nat→Prop:=fun b=>R b∨ ∃i,i<n∧(f i).2.2 b
  have hR3: ∀b,R3 b→R b∨ ∃k,k<n∧lo k≤b∧b<hi k:=by
   rintro b (hb|⟨i,hi',hb⟩)
   ·exact .inl hb
   ·rcases(hf i hi').2.2.1 b hb with hr|⟨k,hk,_,hk1,hk2⟩
    ·exact .inl hr
    ·exact .inr ⟨k,hk,hk1,hk2⟩
  have hRW: ∀b,R b→W.heap[b]? =w0.heap[b]? :=fun b hb=>hE.block b (hRlt b hb) (fun hh=>hh)
  have hHW: ∀e∈H,∀b,e.foot b→W.heap[b]? =w0.heap[b]? :=fun e he b hb=>hE.block b (hHlt e he b hb) (fun hh=>hh)
  have hnew: ∀e∈(idx (fun i=> !X i) n).flatMap (fun i=>(f i).2.1),∃i,i<n∧X i=false∧e∈(f i).2.1:=fun e he=>by
   obtain⟨i,hi',he⟩:=List.mem_flatMap.1 he
   obtain⟨h1,h2⟩:=mem_idx.1 hi'
   exact⟨i,h1,by simpa using h2,he⟩
  have hfoot: ∀i,i<n→ ∀e∈(f i).2.1,∀b,e.foot b→lo i≤b∧b<hi i∧ ¬(f i).2.2 b:=fun i hi' e he b hb=>((hf i hi').2.2.2.2.1 e he).2 b hb
  refine hAO R3 A W ⟨hs.mods.trans hE.any,?_,fun b hb=> .inl (hs.rsub b hb),?_,?_,?_,?_⟩ ⟨by rw[hdf];exact ha.defers,by rw[hsz];exact ha.size,?_⟩
  ·intro b hb
   rcases hR3 b hb with hb|⟨k,hk,_,hk2⟩
   ·exact Nat.lt_of_lt_of_le (hRlt b hb) hE.size
   ·have:=(hlo k hk).2.2;omega
  ·intro b hb
   rcases hR3 b hb with hb|⟨k,hk,hk1,_⟩
   ·exact hs.rnew b hb
   ·have h1:=(hlo k hk).1
    have h2:=hs.mods.size
    exact .inr (.inl (by omega))
  ·intro e he
   rcases List.mem_append.1 he with he|he
   ·obtain⟨i,hi',_,he⟩:=hnew e he
    exact HE.ok_mono (fun b hb=> .inr ⟨i,hi',hb⟩) (fun _ _=>rfl) (Nat.le_refl _) (fun _ _=>rfl) ((hf i hi').2.2.2.2.1 e he).1
   ·exact HE.ok_mono (fun b hb=> .inl hb) hRW hE.size (hHW e he) (hs.ok e he)
  ·intro e he b hb
   rcases List.mem_append.1 he with he|he
   ·obtain⟨i,hi',hxi,he⟩:=hnew e he
    obtain⟨h1,h2,h3⟩:=hfoot i hi' e he b hb
    refine⟨.inl (by have:=(hlo i hi').1;have:=hs.mods.size;omega),?_⟩
    rintro(hr|⟨j,hj,hr⟩)
    ·have:=hRlt b hr;have:=(hlo i hi').1;omega
    ·by_cases hji:j=i
     ·subst hji;exact h3 hr
     ·rcases(hf j hj).2.2.1 b hr with hr|⟨k,hk,hk0,hk1,hk2⟩
      ·have:=hRlt b hr;have:=(hlo i hi').1;omega
      ·have hki:k≠i:=by
        rcases hk0 with hk0|rfl
        ·intro e;rw[e,hxi]at hk0;cases hk0
        ·exact hji
       rcases hdis k i hk hi' hki with h|h<;>omega
   ·refine⟨(hs.own e he b hb).1,fun hr=> ?_⟩
    rcases hR3 b hr with hr|⟨k,hk,hk1,_⟩
    ·exact(hs.own e he b hb).2 hr
    ·have:=(hlo k hk).1;have:=hHlt e he b hb;omega
  ·rw[List.pairwise_append]
   refine⟨?_,hs.disj,fun e he g hg b hb hb'=> ?_⟩
   ·rw[List.pairwise_flatMap]
    refine⟨fun i hi'=>(hf i (mem_idx.1 hi').1).2.2.2.2.2,?_⟩
    refine(p0g _ n).imp_of_mem fun{i j} hi' hj hij x hx y hy b hb hb'=> ?_
    have h1:=hfoot i (mem_idx.1 hi').1 x hx b hb
    have h2:=hfoot j (mem_idx.1 hj).1 y hy b hb'
    rcases hdis i j (mem_idx.1 hi').1 (mem_idx.1 hj).1 hij with h|h<;>omega
   ·obtain⟨i,hi',_,he⟩:=hnew e he
    have h1:=(hfoot i hi' e he b hb).1
    have h2:=hHlt g hg b hb'
    have h3:=(hlo i hi').1
    omega
  ·intro t v ht
   rcases i0k ht with ht|⟨htn,ht⟩
   ·obtain⟨i,hi',rfl,rfl⟩:=f0H ht
    exact((hf i (mem_idx.1 hi').1).2.2.2.1).mono (fun b hb=> .inr ⟨i,(mem_idx.1 hi').1,hb⟩) (fun _ _=>rfl)
   ·rcases i0k ht with ht|⟨htn2,ht⟩
    ·obtain⟨i,hi',rfl,rfl⟩:=f0H ht
     obtain⟨h1,h2⟩:=mem_idx.1 hi'
     rw[←(hV i h1 h2).1]
     exact((hf i h1).2.2.2.1).mono (fun b hb=> .inr ⟨i,h1,hb⟩) (fun _ _=>rfl)
    ·rw[hout t fun i hi' e=> ?_]
     ·exact(ha.slots t v ht).mono (fun b hb=> .inl hb) hRW
     ·cases hx:X i with
      |true=>exact b0Z htn2 i (mem_idx.2 ⟨hi',hx⟩) e
      |false=>exact b0Z htn i (mem_idx.2 ⟨hi',by simp[hx]⟩) e
 ·simp
 ·intro i hi
  by_cases h:i<l.length<;>simp[Array.getD,h]
 ·intro i o hl
  by_cases h:i<l.length<;>simp[Array.getD,h]at hl
 ·intro i hi hl
  by_cases h:i<l.length<;>simp[Array.getD,h]at hl
 ·intro i j hi hj hne hl
  by_cases h:i<l.length<;>simp[Array.getD,h]at hl
theorem yA {Γ:Cx}{Q:Exit→Act→World→Prop}{E:Env}{H:List HE}{id:Nat}{l:List Oper}(n:Nat)(h:FA P Γ.N l.toArray E H (fun ex nx=>a0h nx fun E' H'=>AO Γ P l.toArray Q (l.drop n) (E'++(ex++E)) (H'++H)) [] [] (l.take n))(hm:P.follows .mixedOrders=true:=by kernel_rfl)(hok:d0v l.toArray n=true:=by kernel_rfl):AW Γ P Q (.region id l.toArray true) E H:=AW.regionD n hm hok h
section
variable {K:Env→Ch→Prop}{ex:Env}{nx:Ch}{rest:List Oper}{o:Oper}
theorem FA.op {d:Nat}{v:AV}(h:OpW P N o (rst (ex++E0) (o.looksAt ops)) H0 (Is v))(hw:a0f ops (rst (ex++E0) (o.looksAt ops)) o=some true)(hd:o.dst=some d)(hN:Nat.ble (d+1) N=true)(hnx:(nx.all fun p=> !(o.looksAt ops).contains p.1)=true)(k:FA P N ops E0 H0 K ((d,v)::ex) nx rest):
  FA P N ops E0 H0 K ex nx (o::rest):=⟨d,hd,lB hN,hnx,.inl ⟨v,.run hw h,k⟩⟩
theorem zH {d:Nat}{v:AV}(k:FA P N ops E0 H0 K ((d,v)::ex) nx rest)(h:OpW P N o (rst (ex++E0) (o.looksAt ops)) H0 (Is v):=by exact(O.move rfl rfl))(hw:a0f ops (rst (ex++E0) (o.looksAt ops)) o=some true:=by exact rfl)(hd:o.dst=some d:=by exact rfl)(hN:Nat.ble (d+1) N=true:=by exact rfl)(hnx:(nx.all fun p=> !(o.looksAt ops).contains p.1)=true:=by exact rfl):FA P N ops E0 H0 K ex nx (o::rest):=FA.op h hw hd hN hnx k
theorem zM {d:Nat}{v:AV}(k:FA P N ops E0 H0 K ((d,v)::ex) nx rest)(h:OpW P N o (rst (ex++E0) (o.looksAt ops)) H0 (Is v):=by exact(O.load rfl rfl mM (by rfl)))(hw:a0f ops (rst (ex++E0) (o.looksAt ops)) o=some true:=by exact rfl)(hd:o.dst=some d:=by exact rfl)(hN:Nat.ble (d+1) N=true:=by exact rfl)(hnx:(nx.all fun p=> !(o.looksAt ops).contains p.1)=true:=by exact rfl):FA P N ops E0 H0 K ex nx (o::rest):=FA.op h hw hd hN hnx k
theorem yw {d:Nat}{v:AV}(k:FA P N ops E0 H0 K ((d,v)::ex) nx rest)(h:OpW P N o (rst (ex++E0) (o.looksAt ops)) H0 (Is v):=by exact(O.fieldAddr rfl rfl))(hw:a0f ops (rst (ex++E0) (o.looksAt ops)) o=some true:=by exact rfl)(hd:o.dst=some d:=by exact rfl)(hN:Nat.ble (d+1) N=true:=by exact rfl)(hnx:(nx.all fun p=> !(o.looksAt ops).contains p.1)=true:=by exact rfl):FA P N ops E0 H0 K ex nx (o::rest):=FA.op h hw hd hN hnx k
theorem vP {d:Nat}{v:AV}(h:OpW P N o (rst (ex++E0) (o.looksAt ops)) H0 (Is v))(k:FA P N ops E0 H0 K ((d,v)::ex) nx rest)(hw:a0f ops (rst (ex++E0) (o.looksAt ops)) o=some true:=by exact rfl)(hd:o.dst=some d:=by exact rfl)(hN:Nat.ble (d+1) N=true:=by exact rfl)(hnx:(nx.all fun p=> !(o.looksAt ops).contains p.1)=true:=by exact rfl):FA P N ops E0 H0 K ex nx (o::rest):=FA.op h hw hd hN hnx k
theorem yU {d:Nat}{v:AV}(k:FA P N ops E0 H0 K ((d,v)::ex) nx rest)(h:OpW P N o (rst (ex++E0) (o.looksAt ops)) H0 (Is v):=by exact(O.load rfl rfl (by repeat(exact List.Mem.head _)) (by rfl)))(hw:a0f ops (rst (ex++E0) (o.looksAt ops)) o=some true:=by exact rfl)(hd:o.dst=some d:=by exact rfl)(hN:Nat.ble (d+1) N=true:=by exact rfl)(hnx:(nx.all fun p=> !(o.looksAt ops).contains p.1)=true:=by exact rfl):FA P N ops E0 H0 K ex nx (o::rest):=FA.op h hw hd hN hnx k
theorem yY {d:Nat}{v:AV}(k:FA P N ops E0 H0 K ((d,v)::ex) nx rest)(h:OpW P N o (rst (ex++E0) (o.looksAt ops)) H0 (Is v):=by exact(O.idxL rfl rfl rfl ⟨(by omega),(by omega)⟩))(hw:a0f ops (rst (ex++E0) (o.looksAt ops)) o=some true:=by exact rfl)(hd:o.dst=some d:=by exact rfl)(hN:Nat.ble (d+1) N=true:=by exact rfl)(hnx:(nx.all fun p=> !(o.looksAt ops).contains p.1)=true:=by exact rfl):FA P N ops E0 H0 K ex nx (o::rest):=FA.op h hw hd hN hnx k
theorem xm {d:Nat}{v:AV}(k:FA P N ops E0 H0 K ((d,v)::ex) nx rest)(h:OpW P N o (rst (ex++E0) (o.looksAt ops)) H0 (Is v):=by exact(O.add rfl rfl rfl (by exact e0J (by omega))))(hw:a0f ops (rst (ex++E0) (o.looksAt ops)) o=some true:=by exact rfl)(hd:o.dst=some d:=by exact rfl)(hN:Nat.ble (d+1) N=true:=by exact rfl)(hnx:(nx.all fun p=> !(o.looksAt ops).contains p.1)=true:=by exact rfl):FA P N ops E0 H0 K ex nx (o::rest):=FA.op h hw hd hN hnx k
theorem xp {d:Nat}{v:AV}(k:FA P N ops E0 H0 K ((d,v)::ex) nx rest)(h:OpW P N o (rst (ex++E0) (o.looksAt ops)) H0 (Is v):=by exact(O.idxL rfl rfl rfl (by exact⟨by omega,by omega⟩)))(hw:a0f ops (rst (ex++E0) (o.looksAt ops)) o=some true:=by exact rfl)(hd:o.dst=some d:=by exact rfl)(hN:Nat.ble (d+1) N=true:=by exact rfl)(hnx:(nx.all fun p=> !(o.looksAt ops).contains p.1)=true:=by exact rfl):FA P N ops E0 H0 K ex nx (o::rest):=FA.op h hw hd hN hnx k
theorem xr {d:Nat}{v:AV}(k:FA P N ops E0 H0 K ((d,v)::ex) nx rest)(h:OpW P N o (rst (ex++E0) (o.looksAt ops)) H0 (Is v):=by exact(O.idxR rfl rfl rfl ⟨(by omega),(by omega)⟩))(hw:a0f ops (rst (ex++E0) (o.looksAt ops)) o=some true:=by exact rfl)(hd:o.dst=some d:=by exact rfl)(hN:Nat.ble (d+1) N=true:=by exact rfl)(hnx:(nx.all fun p=> !(o.looksAt ops).contains p.1)=true:=by exact rfl):FA P N ops E0 H0 K ex nx (o::rest):=FA.op h hw hd hN hnx k
theorem xv {d:Nat}{v:AV}(k:FA P N ops E0 H0 K ((d,v)::ex) nx rest)(h:OpW P N o (rst (ex++E0) (o.looksAt ops)) H0 (Is v):=by exact(O.mul rfl rfl rfl (by exact e0J (by omega))))(hw:a0f ops (rst (ex++E0) (o.looksAt ops)) o=some true:=by exact rfl)(hd:o.dst=some d:=by exact rfl)(hN:Nat.ble (d+1) N=true:=by exact rfl)(hnx:(nx.all fun p=> !(o.looksAt ops).contains p.1)=true:=by exact rfl):FA P N ops E0 H0 K ex nx (o::rest):=FA.op h hw hd hN hnx k
theorem xX {d:Nat}{v:AV}(k:FA P N ops E0 H0 K ((d,v)::ex) nx rest)(h:OpW P N o (rst (ex++E0) (o.looksAt ops)) H0 (Is v):=by exact(O.sub rfl rfl rfl (by exact e0J (by omega))))(hw:a0f ops (rst (ex++E0) (o.looksAt ops)) o=some true:=by exact rfl)(hd:o.dst=some d:=by exact rfl)(hN:Nat.ble (d+1) N=true:=by exact rfl)(hnx:(nx.all fun p=> !(o.looksAt ops).contains p.1)=true:=by exact rfl):FA P N ops E0 H0 K ex nx (o::rest):=FA.op h hw hd hN hnx k
theorem x0 {d:Nat}{v:AV}(k:FA P N ops E0 H0 K ((d,v)::ex) nx rest)(h:OpW P N o (rst (ex++E0) (o.looksAt ops)) H0 (Is v):=by exact(O.build rfl rfl rfl (by rfl)))(hw:a0f ops (rst (ex++E0) (o.looksAt ops)) o=some true:=by exact rfl)(hd:o.dst=some d:=by exact rfl)(hN:Nat.ble (d+1) N=true:=by exact rfl)(hnx:(nx.all fun p=> !(o.looksAt ops).contains p.1)=true:=by exact rfl):FA P N ops E0 H0 K ex nx (o::rest):=FA.op h hw hd hN hnx k
theorem x9 {d:Nat}{v:AV}(k:FA P N ops E0 H0 K ((d,v)::ex) nx rest)(h:OpW P N o (rst (ex++E0) (o.looksAt ops)) H0 (Is v):=by exact(OpW.frzR (O.appendNil rfl (by rfl) (by rfl) rfl rfl (by exact SrcA.ro TyD.ax (by(simp;done)) (lB rfl)) (by(simp[AV.cells,AV.one, *];done)) (by(unfold maxLen;omega)) (by omega))))(hw:a0f ops (rst (ex++E0) (o.looksAt ops)) o=some true:=by exact rfl)(hd:o.dst=some d:=by exact rfl)(hN:Nat.ble (d+1) N=true:=by exact rfl)(hnx:(nx.all fun p=> !(o.looksAt ops).contains p.1)=true:=by exact rfl):FA P N ops E0 H0 K ex nx (o::rest):=FA.op h hw hd hN hnx k
theorem wq {d:Nat}{v:AV}(k:FA P N ops E0 H0 K ((d,v)::ex) nx rest)(h:OpW P N o (rst (ex++E0) (o.looksAt ops)) H0 (Is v):=by exact(O.xor_ rfl rfl rfl u0G))(hw:a0f ops (rst (ex++E0) (o.looksAt ops)) o=some true:=by exact rfl)(hd:o.dst=some d:=by exact rfl)(hN:Nat.ble (d+1) N=true:=by exact rfl)(hnx:(nx.all fun p=> !(o.looksAt ops).contains p.1)=true:=by exact rfl):FA P N ops E0 H0 K ex nx (o::rest):=FA.op h hw hd hN hnx k
theorem wG {d:Nat}{v:AV}(k:FA P N ops E0 H0 K ((d,v)::ex) nx rest)(h:OpW P N o (rst (ex++E0) (o.looksAt ops)) H0 (Is v):=by exact(O.conv rfl rfl (by exact e0J (by omega))))(hw:a0f ops (rst (ex++E0) (o.looksAt ops)) o=some true:=by exact rfl)(hd:o.dst=some d:=by exact rfl)(hN:Nat.ble (d+1) N=true:=by exact rfl)(hnx:(nx.all fun p=> !(o.looksAt ops).contains p.1)=true:=by exact rfl):FA P N ops E0 H0 K ex nx (o::rest):=FA.op h hw hd hN hnx k
theorem wW {d:Nat}{v:AV}(k:FA P N ops E0 H0 K ((d,v)::ex) nx rest)(h:OpW P N o (rst (ex++E0) (o.looksAt ops)) H0 (Is v):=by exact(O.idxV rfl rfl rfl ⟨(by omega),(by omega)⟩))(hw:a0f ops (rst (ex++E0) (o.looksAt ops)) o=some true:=by exact rfl)(hd:o.dst=some d:=by exact rfl)(hN:Nat.ble (d+1) N=true:=by exact rfl)(hnx:(nx.all fun p=> !(o.looksAt ops).contains p.1)=true:=by exact rfl):FA P N ops E0 H0 K ex nx (o::rest):=FA.op h hw hd hN hnx k
theorem wZ {d:Nat}{v:AV}(k:FA P N ops E0 H0 K ((d,v)::ex) nx rest)(h:OpW P N o (rst (ex++E0) (o.looksAt ops)) H0 (Is v):=by exact(O.idxV rfl rfl rfl (by exact⟨by omega,by omega⟩)))(hw:a0f ops (rst (ex++E0) (o.looksAt ops)) o=some true:=by exact rfl)(hd:o.dst=some d:=by exact rfl)(hN:Nat.ble (d+1) N=true:=by exact rfl)(hnx:(nx.all fun p=> !(o.looksAt ops).contains p.1)=true:=by exact rfl):FA P N ops E0 H0 K ex nx (o::rest):=FA.op h hw hd hN hnx k
theorem vq {d:Nat}{v:AV}(k:FA P N ops E0 H0 K ((d,v)::ex) nx rest)(h:OpW P N o (rst (ex++E0) (o.looksAt ops)) H0 (Is v):=by exact(O.loadK rfl rfl (by repeat(exact List.Mem.head _)) (by(dsimp only[List.set,cA,cN,List.take,List.drop];done)) (by rfl)))(hw:a0f ops (rst (ex++E0) (o.looksAt ops)) o=some true:=by exact rfl)(hd:o.dst=some d:=by exact rfl)(hN:Nat.ble (d+1) N=true:=by exact rfl)(hnx:(nx.all fun p=> !(o.looksAt ops).contains p.1)=true:=by exact rfl):FA P N ops E0 H0 K ex nx (o::rest):=FA.op h hw hd hN hnx k
theorem vB {d:Nat}{v:AV}(k:FA P N ops E0 H0 K ((d,v)::ex) nx rest)(h:OpW P N o (rst (ex++E0) (o.looksAt ops)) H0 (Is v):=by exact(O.assign rfl rfl))(hw:a0f ops (rst (ex++E0) (o.looksAt ops)) o=some true:=by exact rfl)(hd:o.dst=some d:=by exact rfl)(hN:Nat.ble (d+1) N=true:=by exact rfl)(hnx:(nx.all fun p=> !(o.looksAt ops).contains p.1)=true:=by exact rfl):FA P N ops E0 H0 K ex nx (o::rest):=FA.op h hw hd hN hnx k
theorem vD {d:Nat}{v:AV}(k:FA P N ops E0 H0 K ((d,v)::ex) nx rest)(h:OpW P N o (rst (ex++E0) (o.looksAt ops)) H0 (Is v):=by exact(O.loadK rfl rfl (by repeat(exact List.Mem.head _)) (by exact List.take_of_length_le (Nat.le_of_eq (a0b _ _))) (by exact a0b _ _)))(hw:a0f ops (rst (ex++E0) (o.looksAt ops)) o=some true:=by exact rfl)(hd:o.dst=some d:=by exact rfl)(hN:Nat.ble (d+1) N=true:=by exact rfl)(hnx:(nx.all fun p=> !(o.looksAt ops).contains p.1)=true:=by exact rfl):FA P N ops E0 H0 K ex nx (o::rest):=FA.op h hw hd hN hnx k
theorem vG {d:Nat}{v:AV}(k:FA P N ops E0 H0 K ((d,v)::ex) nx rest)(h:OpW P N o (rst (ex++E0) (o.looksAt ops)) H0 (Is v):=by exact(O.xor_ rfl rfl rfl u0I))(hw:a0f ops (rst (ex++E0) (o.looksAt ops)) o=some true:=by exact rfl)(hd:o.dst=some d:=by exact rfl)(hN:Nat.ble (d+1) N=true:=by exact rfl)(hnx:(nx.all fun p=> !(o.looksAt ops).contains p.1)=true:=by exact rfl):FA P N ops E0 H0 K ex nx (o::rest):=FA.op h hw hd hN hnx k
theorem FA.opN {d:Nat}{Φ:AV→List HE→Prop}(h:OpW P N o (rst (ex++E0) (o.looksAt ops)) H0 Φ)(hw:a0f ops (rst (ex++E0) (o.looksAt ops)) o=some true)(hd:o.dst=some d)(hN:Nat.ble (d+1) N=true)(hnx:(nx.all fun p=> !(o.looksAt ops).contains p.1)=true)(k:FA P N ops E0 H0 K ex ((d,Φ)::nx) rest):
  FA P N ops E0 H0 K ex nx (o::rest):=⟨d,hd,lB hN,hnx,.inr ⟨Φ,.run hw h,k⟩⟩
theorem yS {d:Nat}{Φ:AV→List HE→Prop}(k:FA P N ops E0 H0 K ex ((d,Φ)::nx) rest)(h:OpW P N o (rst (ex++E0) (o.looksAt ops)) H0 Φ:=by exact(O.alloc rfl (by(dsimp only[a0x,List.replicate,List.append,List.flatten,AV.cells,Value.cells,List.toList_toArray,List.map];done)) (by rfl)))(hw:a0f ops (rst (ex++E0) (o.looksAt ops)) o=some true:=by exact rfl)(hd:o.dst=some d:=by exact rfl)(hN:Nat.ble (d+1) N=true:=by exact rfl)(hnx:(nx.all fun p=> !(o.looksAt ops).contains p.1)=true:=by exact rfl):FA P N ops E0 H0 K ex nx (o::rest):=FA.opN h hw hd hN hnx k
theorem we {d:Nat}{Φ:AV→List HE→Prop}(k:FA P N ops E0 H0 K ex ((d,Φ)::nx) rest)(h:OpW P N o (rst (ex++E0) (o.looksAt ops)) H0 Φ:=by exact(O.appendNil rfl (by rfl) (by rfl) rfl rfl (by exact SrcA.ro TyD.ax (by(simp;done)) (lB rfl)) (by(simp[AV.cells,AV.one, *];done)) (by(unfold maxLen;omega)) (by omega)))(hw:a0f ops (rst (ex++E0) (o.looksAt ops)) o=some true:=by exact rfl)(hd:o.dst=some d:=by exact rfl)(hN:Nat.ble (d+1) N=true:=by exact rfl)(hnx:(nx.all fun p=> !(o.looksAt ops).contains p.1)=true:=by exact rfl):FA P N ops E0 H0 K ex nx (o::rest):=FA.opN h hw hd hN hnx k
theorem FA.opG {d:Nat}{c:Bool}{v:AV}(hw:a0S ops (rst (ex++E0) (o.looksAt ops)) o=some c)(hd:o.dst=some d)(hN:Nat.ble (d+1) N=true)(hnx:(nx.all fun p=> !(o.looksAt ops).contains p.1)=true)(h:c=true→OpW P N o (rst (ex++E0) (o.looksAt ops)) H0 (Is v))(k:FA P N ops E0 H0 K ((d,.opt c v)::ex) nx rest):
  FA P N ops E0 H0 K ex nx (o::rest):=⟨d,hd,lB hN,hnx,.inl ⟨_,.opt hw h,k⟩⟩
theorem wy {d:Nat}{c:Bool}{v:AV}(k:FA P N ops E0 H0 K ((d,.opt c v)::ex) nx rest)(hw:a0S ops (rst (ex++E0) (o.looksAt ops)) o=some c:=by exact rfl)(hd:o.dst=some d:=by exact rfl)(hN:Nat.ble (d+1) N=true:=by exact rfl)(hnx:(nx.all fun p=> !(o.looksAt ops).contains p.1)=true:=by exact rfl)(h:c=true→OpW P N o (rst (ex++E0) (o.looksAt ops)) H0 (Is v):=by exact(fun hp=>O.fieldAddr rfl rfl)):FA P N ops E0 H0 K ex nx (o::rest):=FA.opG hw hd hN hnx h k
theorem FA.no {d:Nat}(hw:a0f ops (rst (ex++E0) (o.looksAt ops)) o=some false)(hd:o.dst=some d)(hN:Nat.ble (d+1) N=true)(hnx:(nx.all fun p=> !(o.looksAt ops).contains p.1)=true)(k:FA P N ops E0 H0 K ((d,.val undef)::ex) nx rest):
  FA P N ops E0 H0 K ex nx (o::rest):=⟨d,hd,lB hN,hnx,.inl ⟨_,.no hw,k⟩⟩
theorem FA.nil (k:K ex nx):FA P N ops E0 H0 K ex nx []:=k
theorem vb (k:K ex nx):FA P N ops E0 H0 K ex nx []:=FA.nil k
end
end
def a0a (l:List UInt8):List AV:=l.map fun b=> .val (.int .u8 (b.toNat:Int))
def roB (l:List UInt8):AV:= .ro false l.length (a0a l)
def d0S (k:IntKind)(l:List Int):List AV:=l.map fun z=> .val (.int k z)
def roI (l:List Int):AV:= .ro false l.length (d0S .i64 l)
@[simp] theorem d0d (l:List UInt8):(a0a l).length=l.length:=by simp[a0a]
@[simp] theorem s0g (k:IntKind) (l:List Int):(d0S k l).length=l.length:=by simp[d0S]
@[simp] theorem h0D (l:List UInt8):(a0a l).all AV.one=true:=by simp[a0a,AV.one,Value.oneCell']
@[simp] theorem v0w (k:IntKind) (l:List Int):(d0S k l).all AV.one=true:=by simp[d0S,AV.one,Value.oneCell']
@[simp] theorem a0U (l m:List UInt8):a0a (l++m)=a0a l++a0a m:=by simp[a0a]
@[simp] theorem v0x (k:IntKind) (l m:List Int):d0S k (l++m)=d0S k l++d0S k m:=by simp[d0S]
def f0Y (l:List UInt8):ByteArray:=⟨l.toArray⟩
theorem a0X (l:List UInt8):(f0Y l).toList=l:=by rw[ByteArray.toList_eq];simp[f0Y]
theorem vT:(∀{p:Prop} [Decidable p],(decide p=true)=p)∧(∀{p:Prop} [Decidable p],decide p=false↔ ¬p)∧(∀{α:Type} [BEq α] [LawfulBEq α] {a b:α},(a==b)=true↔a=b)∧(∀{α:Type} [BEq α] [LawfulBEq α] {a b:α},(a==b)=false↔a≠b)∧(∀{α:Type} [BEq α] [LawfulBEq α] {a b:α},(a !=b)=true↔a≠b)∧(∀{α:Type} [BEq α] [LawfulBEq α] {a b:α},(a !=b)=false↔a=b)∧(∀b:Bool,((!b)=true)=(b=false))∧(∀b:Bool,((!b)=false)=(b=true))∧(∀b:Bool,(¬(b=true))=(b=false))∧(∀b:Bool,(¬(b=false))=(b=true))∧(∀{α:Type} (a b:α),(a≠b)= ¬(a=b))∧(∀{a b:Int},¬(a<b)↔b≤a)∧(∀{a b:Int},¬(a≤b)↔b<a)∧(∀a b:Bool,((a&&b)=true)=(a=true∧b=true))∧(∀a b:Bool,((a||b)=true)=(a=true∨b=true))∧(∀{a b:Bool},(a||b)=false↔a=false∧b=false)∧(∀{a b:Bool},(a&&b)=false↔(a=true→b=false))∧(∀l:List UInt8,(f0Y l).toList=l)∧(∀{p:Prop} [Decidable p],¬¬p↔p):=⟨@decide_eq_true_eq,@decide_eq_false_iff_not,@beq_iff_eq,@beq_eq_false_iff_ne,@bne_iff_ne,@bne_eq_false_iff_eq,Bool.not_eq_true',Bool.not_eq_false',Bool.not_eq_true,Bool.not_eq_false,@ne_eq,@Int.not_lt,@Int.not_le,Bool.and_eq_true,Bool.or_eq_true,@Bool.or_eq_false_iff,@Bool.and_eq_false_imp,a0X,@Decidable.not_not⟩
section
variable {Γ:Cx}{P:Program}{Q:Exit→Act→World→Prop}{E:Env}{H:List HE}{N:Nat}{o:Oper}{ops:Array Oper}{rest:List Oper}
theorem o0n {R:Nat→Prop}{W:World}{l:List UInt8}{us:Nat→Value}(h: ∀j (h:j<(a0a l).length),RelV R W (a0a l)[j] (us j)): ∀j (hj:j<l.length),us j= .int .u8 (l[j].toNat:Int):=fun j hj=>by
 have:=h j (by simpa using hj)
 simp only[a0a,List.getElem_map]at this
 exact this.val_inv
theorem k0E (l:List UInt8):(l.map fun b=>((b.toNat:Nat):Int)).foldl (fun r n=>r.push (UInt8.ofNat n.toNat)) ByteArray.empty=f0Y l:=by
 have key: ∀(l:List UInt8) (r:ByteArray),((l.map fun b=>((b.toNat:Nat):Int)).foldl (fun r n=>r.push (UInt8.ofNat n.toNat)) r).data=r.data++l.toArray:=by
  intro l
  induction l with
  |nil=>intro r;simp
  |cons b l ih=>
   intro r
   rw[List.map_cons,List.foldl_cons,ih]
   simp[ByteArray.push]
 have:=key l ByteArray.empty
 cases h:(l.map fun b=>((b.toNat:Nat):Int)).foldl (fun r n=>r.push (UInt8.ofNat n.toNat)) ByteArray.empty with
 |mk d=>
  rw[h]at this
  simp at this
  simp[f0Y,this]
theorem O.convS {S T U:Nat}{x:Operand}{full:Bool}{n:Nat}{xs:List AV}{l:List UInt8}[hS:TyD P S (.slice U)][hU:TyD P U (.int .u8)][hT:TyD P T .string](ho:o.op= .convert S T x)(hx:ev E x=some (.ro full n xs))(hl:AV.ro full n xs= .ro full l.length (a0a l)):
  OpW P N o E H (Is (.val (.string (f0Y l)))):= .of_run fun R a W h1 h2 ha=>by
 have hv:=ha.ev hx
 rw[hl]at hv
 generalize hu:a.eval x=u at*
 refine⟨.string (f0Y l),?_,.val _⟩
 generalize hn:l.length=n' at hv
 generalize hb:a0a l=ys at hv
 cases hv with
 | emp _ ad cap h3 h4=>
  have:l= []:=List.eq_nil_of_length_eq_zero hn
  subst this
  cases ad with
  |none=>simp[execOp,ho,hu,convert,run_underlying hS.ax,run_underlying hT.ax,run_underlying hU.ax,Conv.bytesToString,f0Y];rfl
  |some ad=>
   simp only[execOp,ho,hu]
   rw[Sem.run_bind,run_convert_bytes_string W S T U _ 0 cap hS.ax hU.ax hT.ax,run_bytesToString W ad 0 cap [] (by simp[loadCells,loadCellsFrom])]
   simp[f0Y];rfl
 | ro _ _ _ b off cap us hb' hc hr h3 h4 h5=>
  subst hb
  have hus:=o0n hr
  have hld:(loadCells ⟨b,off,none⟩ n').run P W= .ok ((l.map fun b=>((b.toNat:Nat):Int)).map (Value.int .u8)).toArray W:=by
   have:=run_loadCells_list (P:=P) W ⟨b,off,none⟩ ((l.map fun b=>((b.toNat:Nat):Int)).map (Value.int .u8)) (fun j v hj=>by
    obtain⟨h6,rfl⟩:=List.getElem?_eq_some_iff.1 hj
    simp at h6
    rw[a0N,hc j (by simpa using h6),hus j h6]
    simp)
   simpa[hn]using this
  simp only[execOp,ho,hu]
  rw[Sem.run_bind,run_convert_bytes_string W S T U _ n' cap hS.ax hU.ax hT.ax,run_bytesToString W _ n' cap _ hld,k0E]
  rfl
def w0a (n:Nat)(pos:Bool):AV→List HE→Prop:=fun v Hn=> ∃c:Bool,v= .val (.bool c)∧Hn= []∧((c==pos)=true→n=0)
theorem O.eqlNil {T T' U:Nat}{x y:Operand}{full:Bool}{n:Nat}{xs:List AV}[hT:TyD P T (.slice U)](ho:o.op= .binOp .eql T x y T')(hx:ev E x=some (.ro full n xs))(hy:ev E y=some (.val (.slice none 0 0))):OpW P N o E H (w0a n true):=fun R a W h1 h2 h3 ha=>by
 have hv:=ha.ev hx
 generalize hu:a.eval x=u at*
 have hyv:=(ha.ev hy).val_inv
 have hg: ∀ad m c,(eqGuard .eql T x y (.slice ad m c) (.slice none 0 0)).run P W= .ok () W:=fun ad m c=>by unfold eqGuard;split<;>first|rfl|contradiction
 have key: ∀ad m c,(execOp a.eval o).run P W= .ok (.value (.bool (Option.isNone (α:=Addr) ad))) W∨u≠ .slice ad m c:=fun ad m c=>by
  by_cases hs:u= .slice ad m c
  ·subst hs
   refine .inl ?_
   simp only[execOp,ho,hu,hyv]
   rw[Sem.run_bind,Sem.run_bind,hg]
   show Result.andThen ((binOp .eql T (.slice ad m c) (.slice none 0 0)).run P W) _=_
   have:=_root_.Go.Lib.run_eql_slice_nil (P:=P) W T U ad m c 0 0 hT.ax
   rw[this];rfl
  ·exact .inr hs
 have fin: ∀ad m c,u= .slice ad m c→(ad=none→n=0)→o.wp P a W (fun A' W'=> ∃u v Hn R',A'=a.put o.dst u∧w0a n true v Hn∧Post1 R W v Hn u W' R') NoQ:=fun ad m c he h0=>by
  rcases key ad m c with hr|hne
  ·unfold Oper.wp
   rw[hr]
   refine⟨_,.val (.bool ad.isNone),[],R,rfl,⟨_,rfl,rfl,fun h=> ?_⟩,Post1.same h1 (.val _)⟩
   cases ad with
   |none=>exact h0 rfl
   |some _=>cases h
  ·exact absurd he hne
 cases hv with
 |emp _ ad cap h3 h4=>exact fin ad 0 cap rfl (fun _=>rfl)
 |ro _ _ _ b off cap us hb' hc hr h3 h4 h5=>exact fin _ _ _ rfl (fun h=>by cases h)
theorem O.buildSlice0 {T U k bs:Nat}{z:Value}[hs:TyS P T U k bs z](ho:o.op= .buildSlice T 0 #[]):OpW P N o E H (b0p U k 0 []):=fun R a W h0 h2 h3' ha=>by
 obtain⟨i,hi,hik,hib,hz⟩:=hs.el
 have hr:(execOp a.eval o).run P W= .ok (.value (.slice (some ⟨W.heap.size,0,none⟩) 0 0)) (W.alloc (.cells #[] U)):=by
  simp[execOp,ho,Instr.buildSlice,run_underlying hs.ty,sizeOf,typeInfo,hi,newRow,Instr.fill];congr 2;apply Array.ext';simp[Array.toList_range]
 unfold Oper.wp
 rw[hr]
 refine⟨_,.val _,_,R,rfl,⟨_,rfl,rfl,rfl⟩,Mods.alloc (Mods.refl _ _) _,fun _ h=>h,fun _ h=> .inl h,.val _,?_,by simp⟩
 intro e he
 obtain rfl:e=_:=by simpa using he
 refine⟨⟨[],⟨by simp,.inr ⟨W.heap.size,0,#[],rfl,Nat.zero_le _,heap_alloc_new W _,Nat.le_refl _,Nat.zero_le _,by simp,by simp⟩⟩,RelL.nil⟩,fun b hb=> ?_⟩
 have:some W.heap.size=some b:=hb
 cases this
 exact⟨Nat.le_refl _,fun h=>by have:=h0 _ h;omega⟩
theorem O.minI {T:Array Nat}{x y:Operand}{k:IntKind}{p q c:Int}(ho:o.op= .call {callee:= .builtin .min,args:= #[x,y],argTypes:=T})(hx:ev E x=some (.val (.int k p)))(hy:ev E y=some (.val (.int k q)))(hc:(if q<p then q else p)=c):
  OpW P N o E H (Is (.val (.int k c))):= .of_run fun R a W h1 h2 ha=>
 ⟨.int k c,by simp[execOp,ho,(ha.ev hx).val_inv,(ha.ev hy).val_inv,resolve,invoke,builtin,Builtin.min_,Builtin.min2,hc],.val _⟩
theorem O.maxI {T:Array Nat}{x y:Operand}{k:IntKind}{p q c:Int}(ho:o.op= .call {callee:= .builtin .max,args:= #[x,y],argTypes:=T})(hx:ev E x=some (.val (.int k p)))(hy:ev E y=some (.val (.int k q)))(hc:(if p<q then q else p)=c):
  OpW P N o E H (Is (.val (.int k c))):= .of_run fun R a W h1 h2 ha=>
 ⟨.int k c,by simp[execOp,ho,(ha.ev hx).val_inv,(ha.ev hy).val_inv,resolve,invoke,builtin,Builtin.max_,Builtin.max2,hc],.val _⟩
end
def d0e (E:Env):Option Operand→Nat→Option Int
 |none,d=>some d
 |some x,_=>match ev E x with
  |some (.val (.int _ z))=>some z
  |_=>none
section
variable {Γ:Cx}{P:Program}{Q:Exit→Act→World→Prop}{E:Env}{H:List HE}{N:Nat}{o:Oper}{ops:Array Oper}{rest:List Oper}
theorem e0E {R:Nat→Prop}{W:World}{a:Act}{x:Operand}{d:Nat}{z:Int}(ha:RelA N R W E a)(h:d0e E (some x) d=some z): ∃k,a.eval x= .int k z:=by
 unfold d0e at h
 simp only at h
 split at h
 ·rename_i k z' hx
  cases h
  exact⟨k,(ha.ev hx).val_inv⟩
 ·cases h
theorem d0h {R:Nat→Prop}{W:World}{a:Act}{low high:Option Operand}{n cap:Nat}{l h:Int}(ha:RelA N R W E a)(hl:d0e E low 0=some l)(hh:d0e E high n=some h)(h0:0≤l∧l≤h∧h≤n)(hc:n≤cap):
  (Instr.sliceBounds true n cap (low.map a.eval) (high.map a.eval) none).run P W= .ok (l.toNat,h.toNat,cap) W:=by
 obtain⟨h1,h2,h3⟩:=h0
 have hhc:h≤(cap:Int):=by omega
 cases high with
 | none=>
  obtain rfl:(n:Int)=h:=by simpa[d0e]using hh
  cases low with
  |none=>
   obtain rfl:(0:Int)=l:=by simpa[d0e]using hl
   simp[Instr.sliceBounds]
  |some x=>
   obtain⟨k,hk⟩:=e0E ha hl
   simp[Instr.sliceBounds,Instr.sliceBound,hk,asIntOf,h1,h2]
 | some y=>
  obtain⟨k',hk'⟩:=e0E ha hh
  have h4:0≤h:=by omega
  cases low with
  |none=>
   obtain rfl:(0:Int)=l:=by simpa[d0e]using hl
   simp[Instr.sliceBounds,Instr.sliceBound,hk',asIntOf,h4,hhc]
  |some x=>
   obtain⟨k,hk⟩:=e0E ha hl
   have h5:l≤max h 0:=by omega
   simp[Instr.sliceBounds,Instr.sliceBound,hk,hk',asIntOf,h1,h4,hhc]
   omega
theorem G.freezePtr {X:Act→World→Prop}(i t:Nat){b T room:Nat}{xs:List AV}(hi:H[i]? =some (.blk b T room xs))(ht:a0r E t=some (.val (.pointer (some ⟨b,0,none⟩))))(k:G Γ ((t,.rp xs 0)::E) (H.eraseIdx i) X):G Γ E H X:=
 G.freezeBlk i hi [(t,.rp xs 0)] (fun p hp=>by
  obtain rfl:p=(t,.rp xs 0):=by simpa using hp
  exact .inl ⟨0,ht,rfl⟩) k
theorem G.freezeSl {X:Act→World→Prop}(i t:Nat){b T room n cap:Nat}{xs:List AV}(hi:H[i]? =some (.blk b T room xs))(ht:a0r E t=some (.val (.slice (some ⟨b,0,none⟩) n cap)))(hc:n≤cap∧cap≤maxLen)(k:G Γ ((t,.ro (Nat.beq n cap) n xs)::E) (H.eraseIdx i) X):G Γ E H X:=
 G.freezeBlk i hi [(t,.ro (Nat.beq n cap) n xs)] (fun p hp=>by
  obtain rfl:p=(t,.ro (Nat.beq n cap) n xs):=by simpa using hp
  exact .inr ⟨n,cap,ht,rfl,hc.1,hc.2⟩) k
theorem yi {X:Act→World→Prop}{b T room n cap:Nat}{xs:List AV}(i:Nat)(t:Nat)(k:G Γ ((t,.ro (Nat.beq n cap) n xs)::E) (H.eraseIdx i) X)(hi:H[i]? =some (.blk b T room xs):=by exact rfl)(ht:a0r E t=some (.val (.slice (some ⟨b,0,none⟩) n cap)):=by exact rfl)(hc:n≤cap∧cap≤maxLen:=by exact⟨Nat.le_refl _,by unfold maxLen;omega⟩):G Γ E H X:=G.freezeSl i t hi ht hc k
theorem v0D {v:AV}: ∀t∈([]:List Nat),a0r E t=some v:=fun _ h=>by cases h
theorem s0h {t:Nat}{r:List Nat}{v:AV}(h:a0r E t=some v)(hr: ∀t∈r,a0r E t=some v): ∀s∈t::r,a0r E s=some v:=fun s hs=>by
 rcases List.mem_cons.1 hs with rfl|hs
 ·exact h
 ·exact hr s hs
theorem O.sliceR {T:Nat}{x:Operand}{low high:Option Operand}{full:Bool}{n:Nat}{xs ys:List AV}{l h:Int}{U sz bs m:Nat}{zz:Value}[hs:TyS P T U sz bs zz](ho:o.op= .slice T x low high none)(hx:ev E x=some (.ro full n xs))(hl:d0e E low 0=some l)(hh:d0e E high n=some h)(h0:0≤l∧l≤h∧h≤n)
  (hm:h.toNat-l.toNat=m) (hy:(xs.drop (l.toNat*sz)).take (m*sz)=ys) (hys:m=0→ys= []):OpW P N o E H (Is (.ro false m ys)):= .of_run fun R a W h1 h2 ha=>by
 obtain⟨i,hi,hi2, -⟩:=hs.el
 have hv:=ha.ev hx
 generalize hu:a.eval x=u at*
 cases hv with
 |emp _ ad cap h3 h4=>
  have hb:=d0h (P:=P) (W:=W) (cap:=cap) ha hl hh h0 (Nat.zero_le _)
  obtain⟨g1,g2,g3⟩:=h0
  simp at g3
  obtain rfl:l=0:=by omega
  obtain rfl:h=0:=by omega
  simp at hm
  subst hm
  rw[hys rfl]
  refine⟨.slice (if cap=0 then ad else ad.map (·.add (0*sz))) 0 (cap-0),?_,.emp _ _ _ (fun h=>by cases h) (by omega)⟩
  simp[execOp,ho,hu,Instr.sliceAt,Instr.slice,run_underlying hs.ty,hb,sizeOf,typeInfo,hi,hi2]
 | ro _ _ _ b off cap us hb' hc hr h3 h4 h5=>
  have hb:=d0h (P:=P) (W:=W) (cap:=cap) ha hl hh h0 h3
  obtain⟨g1,g2,g3⟩:=h0
  have hlen:l.toNat≤h.toNat:=by omega
  have hhn:h.toNat≤n:=by omega
  refine⟨.slice (if cap=l.toNat then some ⟨b,off,none⟩else some ⟨b,off+l.toNat*sz,none⟩) (h.toNat-l.toNat) (cap-l.toNat),?_,?_⟩
  ·simp only[execOp,ho,hu,Instr.sliceAt,Instr.slice,run_underlying hs.ty,Sem.run_bind,Result.andThen_ok,hb,sizeOf,typeInfo,hi,hi2,run_program,Sem.run_pure,Option.map_none]
   split<;>simp[a0N]
  ·rw[hm]
   by_cases hz:cap=l.toNat
   ·rw[if_pos hz]
    have:m=0:=by omega
    subst this
    rw[hys rfl]
    exact .emp _ _ _ (fun h=>by cases h) (by omega)
   ·rw[if_neg hz]
    subst hy
    refine .ro _ _ _ b (off+l.toNat*sz) _ (fun j=>us (l.toNat*sz+j)) hb' (fun j hj=> ?_) (fun j hj=> ?_) (by omega) (by omega) (fun h=>by cases h)
    ·simp at hj
     rw[Nat.add_assoc]
     exact hc _ (by omega)
    ·simp only[List.getElem_take,List.getElem_drop]
     simp at hj
     exact hr _ (by omega)
theorem O.sliceTo {T:Nat}{x y:Operand}{full:Bool}{n k:Nat}{kk:IntKind}{z:Int}{xs ys:List AV}{U sz bs:Nat}{zz:Value}[hs:TyS P T U sz bs zz](ho:o.op= .slice T x none (some y) none)(hx:ev E x=some (.ro full n xs))(hy:ev E y=some (.val (.int kk z)))(hz:z=(k:Int))(hk:k≤n)(hys:xs.take (k*sz)=ys):
  OpW P N o E H (Is (.ro false k ys)):=by
 subst hz
 refine O.sliceR (l:=0) (h:=(k:Int)) ho hx rfl (by simp[d0e,hy]) ⟨by omega,by omega,by omega⟩ (by simp) (by simpa using hys) (fun h=> ?_)
 subst h;rw[←hys];simp
theorem O.sliceFrom {T:Nat}{x y:Operand}{full:Bool}{n k:Nat}{kk:IntKind}{z:Int}{xs ys:List AV}{U sz bs:Nat}{zz:Value}[hs:TyS P T U sz bs zz](ho:o.op= .slice T x (some y) none none)(hx:ev E x=some (.ro full n xs))(hy:ev E y=some (.val (.int kk z)))(hz:z=(k:Int))(hk:k≤n)(hl:xs.length=n*sz)(hys:xs.drop (k*sz)=ys):
  OpW P N o E H (Is (.ro false (n-k) ys)):=by
 subst hz
 have hlen:(xs.drop (k*sz)).length=(n-k)*sz:=by rw[List.length_drop,hl,Nat.sub_mul]
 refine O.sliceR (l:=(k:Int)) (h:=(n:Int)) (m:=n-k) ho hx (by simp[d0e,hy]) rfl ⟨by omega,by omega,by omega⟩ (by simp) ?_ (fun h=> ?_)
 ·simp only[Int.toNat_natCast]
  rw[List.take_of_length_le (by rw[hlen];exact Nat.le_refl _),hys]
 ·rw[←hys];exact List.eq_nil_of_length_eq_zero (by rw[hlen,h,Nat.zero_mul])
end
def Coe (a b:AV):Prop:= ∀R W u,RelV R W a u→RelV R W b u
def CoeL (a b:List AV):Prop:= ∀R W us,RelL R W a us→RelL R W b us
theorem Coe.rfl {a:AV}:Coe a a:=fun _ _ _ h=>h
theorem Coe.nil:Coe (.val (.slice none 0 0)) (.ro false 0 []):=fun _ _ _ h=>h.nilRo
theorem Coe.unfull {full:Bool}{n:Nat}{xs:List AV}:Coe (.ro full n xs) (.ro false n xs):=fun _ _ _ h=>h.unfull
theorem CoeL.nil:CoeL [] []:=fun _ _ _ h=>h
theorem CoeL.cons {a b:AV}{x y:List AV}(h:Coe a b)(hs:CoeL x y):CoeL (a::x) (b::y):=fun R W us hu=>by
 obtain⟨u,r,rfl,h1,h2⟩:=hu.uncons
 exact RelL.cons (h R W u h1) (hs R W r h2)
theorem CoeL.refl {a:List AV}:CoeL a a:=fun _ _ _ h=>h
theorem Coe.agg {x y:List AV}(h:CoeL x y):Coe (.agg x) (.agg y):=fun R W u hu=>by
 obtain⟨us,rfl,h1⟩:=hu.agg_inv
 exact(h R W us h1).toAgg
theorem wB {x y:List AV}(h:CoeL x y:=by(repeat(first|exact CoeL.nil|refine CoeL.cons Coe.rfl ?_|refine CoeL.cons Coe.nil ?_));done):Coe (.agg x) (.agg y):=Coe.agg h
theorem Sp.coe {P:Program}{f:FuncId}{args args':List AV}{H0:List HE}{Post:AV→List HE→Prop}(h:Sp P f args' H0 Post)(hc:CoeL args args'):Sp P f args H0 Post:=fun W R us h1 h2 h3 h4=>h W R us h1 h2 h3 (hc R W us h4)
section
variable {Γ:Cx}{P:Program}{Q:Exit→Act→World→Prop}{E:Env}{H:List HE}{N:Nat}{o:Oper}{ops:Array Oper}{rest:List Oper}
theorem O.callC {f:FuncId}{xs:List Operand}{ats:Array TypeId}{args args':List AV}{Post:AV→List HE→Prop}{fn:Func}(ho:o.op= .call {callee:= .value (.func f),args:=xs.toArray,argTypes:=ats})(hfn:P.funcs[f]? =some fn)(hn:(fn.name== "runtime.NumGoroutine")=false)(hb:fn.body.isNone=false)
  (hx:evs E xs=some args) (h:Sp P f args' [] Post) (hc:CoeL args args'):OpW P N o E H Post:=O.call ho hfn hn hb hx (h.coe hc)
theorem vv {f:FuncId}{xs:List Operand}{ats:Array TypeId}{args args':List AV}{Post:AV→List HE→Prop}{fn:Func}(ho:o.op= .call {callee:= .value (.func f),args:=xs.toArray,argTypes:=ats})(hfn:P.funcs[f]? =some fn)(hn:(fn.name== "runtime.NumGoroutine")=false)(hb:fn.body.isNone=false)(hx:evs E xs=some args)(h:Sp P f args' [] Post)(hc:CoeL args args':=by(repeat(first|exact CoeL.nil|refine CoeL.cons Coe.rfl ?_|refine CoeL.cons Coe.nil ?_|refine CoeL.cons (Coe.agg ?_) ?_));done):OpW P N o E H Post:=O.callC ho hfn hn hb hx h hc
theorem G.re {X:Act→World→Prop}(t:Nat)(b:AV)(ht:a0r E t=some b)(k:G Γ ((t,b)::E) H X):G Γ E H X:=fun R a' W hs ha=>k R a' W hs (ha.shadow (ha.slots t _ ht))
theorem G.coe {X:Act→World→Prop}(t:Nat){a b:AV}(ht:a0r E t=some a)(h:Coe a b)(k:G Γ ((t,b)::E) H X):G Γ E H X:=fun R a' W hs ha=>k R a' W hs (ha.shadow (h R W _ (ha.slots t _ ht)))
end
theorem n0J (v n:Int)(h:0<n):(if v.tmod n<0 then v.tmod n+n else v.tmod n)=v%n:=by
 have h1:=Int.tmod_add_mul_tdiv v n
 have h2:v.tmod n<n:=Int.tmod_lt_of_pos v h
 have h3: -n<v.tmod n:=by
  rcases Int.le_total 0 v with hv|hv
  ·have:=Int.tmod_nonneg n hv;omega
  ·have:=Int.lt_tmod_of_pos v h;omega
 split
 ·rename_i hlt
  have e:v=v.tmod n+n+n*(v.tdiv n-1):=by rw[Int.mul_sub];omega
  rw[e,Int.add_mul_emod_self_left,←e,Int.emod_eq_of_lt (by omega) (by omega)]
 ·have e:v=v.tmod n+n*(v.tdiv n):=by omega
  rw[e,Int.add_mul_emod_self_left,←e,Int.emod_eq_of_lt (by omega) (by omega)]
def u8 (x:Int):UInt8:=UInt8.ofNat (x%256).toNat
theorem c0r (x:Int):((u8 x).toNat:Int)=x%256:=by
 have h1:=Int.emod_nonneg x (show(256:Int)≠0 by omega)
 have h2:=Int.emod_lt_of_pos x (show(0:Int)<256 by omega)
 rw[u8,UInt8.toNat_ofNat_of_lt' (by simp[UInt8.size];omega)]
 omega
theorem d0m {x:Int}:IntKind.u8.wrap x=((u8 x).toNat:Int):=by
 rw[c0r];rfl
section
variable {Γ:Cx}{P:Program}{Q:Exit→Act→World→Prop}{E:Env}{H:List HE}{N:Nat}{o:Oper}{ops:Array Oper}{rest:List Oper}
def IsM (v:AV)(e:HE):AV→List HE→Prop:=fun r H'=>r=v∧H'= [e]
theorem e0s: ∀{H:List HE} {i:Nat} {e:HE},H[i]? =some e→H.Perm (e::H.eraseIdx i)
 | [],i,e,h=>by simp at h
 |x::r,0,e,h=>by simp at h;subst h;exact List.Perm.refl _
 |x::r,i+1,e,h=>((e0s (H:=r) (i:=i) (by simpa using h)).cons x).trans (List.Perm.swap ..)
theorem i0b: ∀{H:List HE} {i:Nat} {e e':HE},H[i]? =some e→(e'::H.eraseIdx i).Perm (H.set i e')
 | [],i,e,e',h=>by simp at h
 |x::r,0,e,e',h=>List.Perm.refl _
 |x::r,i+1,e,e',h=>(List.Perm.swap ..).trans ((i0b (H:=r) (i:=i) (e':=e') (by simpa using h)).cons x)
theorem AO.perm {H':List HE}{l:List Oper}(hp:H.Perm H')(h:AO Γ P ops Q l E H'):AO Γ P ops Q l E H:=fun R a W hs ha=>h R a W (hs.perm hp.symm) ha
theorem AO.callM1 {f:FuncId}{d:Nat}{xs:List Operand}{ats:Array TypeId}{args:List AV}{i:Nat}{e e':HE}{v:AV}{H':List HE}{fn:Func}(ho:o.op= .call {callee:= .value (.func f),args:=xs.toArray,argTypes:=ats})(hgd:o.guard=none)(hfn:P.funcs[f]? =some fn)(hn:(fn.name== "runtime.NumGoroutine")=false)(hb:fn.body.isNone=false)
  (hx:evs E xs=some args) (hd:o.dst=some d) (hN:Nat.ble (d+1) Γ.N=true) (hi:H[i]? =some e) (h:Sp P f args [e] (IsM v e')) (hH:H.set i e'=H') (next:AO Γ P ops Q rest ((d,v)::E) H'):AO Γ P ops Q (o::rest) E H:=
 AO.callM (H0:= [e]) (H1:=H.eraseIdx i) ho hgd hfn hn hb hx hd (lB hN) (e0s hi) h (by
  rintro _ _ ⟨rfl,rfl⟩
  exact AO.perm (by rw[←hH];exact i0b hi) next)
theorem xz {f:FuncId}{d:Nat}{xs:List Operand}{ats:Array TypeId}{args:List AV}(i:Nat){e e':HE}{v:AV}{H':List HE}{fn:Func}(ho:o.op= .call {callee:= .value (.func f),args:=xs.toArray,argTypes:=ats})(hgd:o.guard=none)(hfn:P.funcs[f]? =some fn)(hn:(fn.name== "runtime.NumGoroutine")=false)(hb:fn.body.isNone=false)(hx:evs E xs=some args)(hd:o.dst=some d)(hN:Nat.ble (d+1) Γ.N=true)(hi:H[i]? =some e)(h:Sp P f args [e] (IsM v e'))(next:AO Γ P ops Q rest ((d,v)::E) H')(hH:H.set i e'=H':=by(dsimp only[List.set,cA,cN,List.take,List.drop];done)):AO Γ P ops Q (o::rest) E H:=AO.callM1 (i:=i) ho hgd hfn hn hb hx hd hN hi h hH next
theorem AO.callMG {f:FuncId}{d:Nat}{xs:List Operand}{ats:Array TypeId}{args:List AV}(i:Nat){e:HE}{Post:AV→List HE→Prop}{fn:Func}(ho:o.op= .call {callee:= .value (.func f),args:=xs.toArray,argTypes:=ats})(hgd:o.guard=none)(hfn:P.funcs[f]? =some fn)(hn:(fn.name== "runtime.NumGoroutine")=false)(hb:fn.body.isNone=false)
  (hx:evs E xs=some args) (hd:o.dst=some d) (hN:Nat.ble (d+1) Γ.N=true) (hi:H[i]? =some e) (h:Sp P f args [e] Post) (next: ∀r H',Post r H'→AO Γ P ops Q rest ((d,r)::E) (H'++H.eraseIdx i)):AO Γ P ops Q (o::rest) E H:=
 AO.callM (H0:= [e]) (H1:=H.eraseIdx i) ho hgd hfn hn hb hx hd (lB hN) (e0s hi) h next
theorem l0s {R:Nat→Prop}{W:World}{v:Value}{T sz n:Nat}{xs:List AV}(h:HE.ok R W (.row v T sz n xs)):RelV (fun b=>R b∨(HE.row v T sz n xs).foot b) W (.ro false n xs) v:=by
 obtain⟨us,hown,hr⟩:=h
 have hr':=hr.mono (R':=fun b=>R b∨(HE.row v T sz n xs).foot b) (fun _ h=> .inl h) (W':=W) (fun _ _=>rfl)
 rcases hown.2 with⟨rfl,rfl⟩|⟨g,cap,cur,rfl,hbg,hg,h1,h2,h3,h4⟩
 ·have:xs= []:=List.eq_nil_of_length_eq_zero (by rw[←hr.1,hown.1];simp)
  subst this
  exact .emp _ _ _ (fun h=>by cases h) (Nat.zero_le _)
 ·refine .ro false n xs g 0 cap (fun j=>us.getD j undef) (.inr rfl) (fun j hj=> ?_) (fun j hj=>hr'.2 j hj) h1 h2 (fun h=>by cases h)
  have hj':j<us.length:=by rw[hr.1];exact hj
  have:=hown.cells (g:=g) rfl j us[j] (by simp[hj'])
  rw[a0N]at this
  rw[this]
  simp[List.getD,hj']
inductive LendL (v:Value) (y:AV):List AV→List AV→Prop
 |nil:LendL v y [] []
 |same {a:AV} {r r':List AV}:LendL v y r r'→LendL v y (a::r) (a::r')
 |lend {r r':List AV}:LendL v y r r'→LendL v y (.val v::r) (y::r')
theorem LendL.rel {R R1:Nat→Prop}{W:World}{v:Value}{y:AV}(hR: ∀b,R b→R1 b)(hy:RelV R1 W y v){a a':List AV}(h:LendL v y a a'): ∀{us:List Value},RelL R W a us→RelL R1 W a' us:=by
 induction h with
 |nil=>intro us h;exact h.mono hR (fun _ _=>rfl)
 |same _ ih=>
  intro us h
  obtain⟨u,r,rfl,h1,h2⟩:=h.uncons
  exact RelL.cons (h1.mono hR (fun _ _=>rfl)) (ih h2)
 |lend _ ih=>
  intro us h
  obtain⟨u,r,rfl,h1,h2⟩:=h.uncons
  have:=h1.val_inv
  subst this
  exact RelL.cons hy (ih h2)
theorem O.callL {f:FuncId}{xs:List Operand}{ats:Array TypeId}{args args':List AV}{v c:Value}{T sz n:Nat}{rs:List AV}{fn:Func}(ho:o.op= .call {callee:= .value (.func f),args:=xs.toArray,argTypes:=ats})(hfn:P.funcs[f]? =some fn)(hn:(fn.name== "runtime.NumGoroutine")=false)(hb:fn.body.isNone=false)
  (hx:evs E xs=some args) (hm:HE.row v T sz n rs∈H) (h:Sp P f args' [] (Is (.val c))) (hl:LendL v (.ro false n rs) args args'):OpW P N o E H (Is (.val c)):=fun R a W h0 h2 h3 ha=>by
 have hR: ∀b,R b→R b∨(HE.row v T sz n rs).foot b:=fun _ h=> .inl h
 have hlt: ∀b,R b∨(HE.row v T sz n rs).foot b→b<W.heap.size:=by
  rintro b (hb|hb)
  ·exact h0 b hb
  ·exact HE.ok_lt (h2 _ hm) hb
 unfold Oper.wp
 rw[b0P ho hfn hn hb,List.map_toArray]
 have hc:=h W _ (xs.map a.eval) hlt (fun e he=>by cases he) .nil (hl.rel hR (l0s (h2 _ hm)) (ha.evs hx))
 refine Calls.mono hc ?_
 rintro e W' ⟨u,r,H',R',rfl,⟨rfl,rfl⟩,hs,hv⟩
 have p:=e0y hs hv hlt
 exact⟨u,.val c,[],R,rfl,⟨rfl,rfl⟩,p.ext,fun _ h=>h,fun _ h=> .inl h,by rw[hv.val_inv];exact .val _,fun _ he=>(by cases he),.nil⟩
theorem OpW.frz {n U room:Nat}{ys:List AV}(h:OpW P N o E H (b0j (fun b=> .val (.slice (some ⟨b,0,none⟩) n n)) U room ys))(hn:n≤maxLen):OpW P N o E H (Is (.ro false n ys)):=fun R a W h1 h2 h3 h4=>by
 refine Oper.wp_mono ?_ (h R a W h1 h2 h3 h4)
 rintro A' W' ⟨u,v,Hn,R',rfl,⟨b,rfl,rfl⟩,p⟩
 obtain⟨hok,hfo⟩:=p.ok _ (List.mem_cons_self ..)
 have hu:=p.val.val_inv
 subst hu
 refine⟨_,.ro false n ys,[],fun c=>R' c∨c=b,rfl,⟨rfl,rfl⟩,p.ext,fun c hc=> .inl (p.sub c hc),fun c hc=> ?_,?_,fun _ he=>(by cases he),.nil⟩
 ·rcases hc with hc|rfl
  ·exact p.new c hc
  ·exact .inr ⟨(hfo _ rfl).1,HE.ok_lt hok rfl⟩
 ·refine .ro false n ys b 0 n (fun j=>(W'.cell? ⟨b,0+j,none⟩).getD undef) (.inr rfl) (fun j hj=> ?_) (fun j hj=> ?_) (Nat.le_refl _) hn (fun h=>by cases h)
  ·obtain⟨u,hu,_⟩:=e0F hok (j:=j) (v:=ys[j]) (by simp[hj])
   rw[Nat.zero_add,hu];rfl
  ·obtain⟨u,hu,hr⟩:=e0F hok (j:=j) (v:=ys[j]) (by simp[hj])
   rw[Nat.zero_add,hu]
   exact hr.mono (fun _ h=> .inl h) (fun _ _=>rfl)
theorem y9 {n U room:Nat}{ys:List AV}(h:OpW P N o E H (b0j (fun b=> .val (.slice (some ⟨b,0,none⟩) n n)) U room ys):=by exact(O.buildSlice rfl rfl rfl (by rfl) (by rfl) (by rfl) (by rfl)))(hn:n≤maxLen:=by(unfold maxLen;omega)):OpW P N o E H (Is (.ro false n ys)):=OpW.frz h hn
theorem O.sliceMax {T:Nat}{x y y':Operand}{full:Bool}{n k:Nat}{kk kk':IntKind}{z z':Int}{xs ys:List AV}{U sz bs:Nat}{zz:Value}[hs:TyS P T U sz bs zz](ho:o.op= .slice T x none (some y) (some y'))(hx:ev E x=some (.ro full n xs))(hy:ev E y=some (.val (.int kk z)))(hy':ev E y'=some (.val (.int kk' z')))
  (hz:z=(k:Int)) (hz':z'=(k:Int)) (hk:k≤n) (hys:xs.take (k*sz)=ys):OpW P N o E H (Is (.ro true k ys)):= .of_run fun R a W h1 h2 ha=>by
 subst hz
 subst hz'
 obtain⟨i,hi,hi2, -⟩:=hs.el
 have hv:=ha.ev hx
 have e1:=(ha.ev hy).val_inv
 have e2:=(ha.ev hy').val_inv
 generalize hu:a.eval x=u at*
 have hb: ∀cap:Nat,k≤cap→(Instr.sliceBounds true n cap none (some (a.eval y)) (some (a.eval y'))).run P W= .ok (0,k,k) W:=fun cap hc=>by
  have h5:(k:Int)≤(cap:Int):=by omega
  simp[Instr.sliceBounds,Instr.sliceBound,e1,e2,asIntOf,h5]
 cases hv with
 |emp _ ad cap h3 h4=>
  obtain rfl:k=0:=by omega
  have hb:=hb cap (by omega)
  have:ys= []:=by rw[←hys];simp
  subst this
  refine⟨.slice (if(0:Nat)=0 then ad else ad.map (·.add (0*sz))) 0 0,?_,.emp _ _ _ (fun _=>rfl) (by omega)⟩
  simp[execOp,ho,hu,Instr.sliceAt,Instr.slice,run_underlying hs.ty,hb,sizeOf,typeInfo,hi,hi2]
 | ro _ _ _ b off cap us hb' hc hr h3 h4 h5=>
  have hb:=hb cap (by omega)
  refine⟨.slice (some ⟨b,off,none⟩) k k,?_,?_⟩
  ·simp only[execOp,ho,hu,Instr.sliceAt,Instr.slice,run_underlying hs.ty,Sem.run_bind,Result.andThen_ok,hb,sizeOf,typeInfo,hi,hi2,run_program,Sem.run_pure,Option.map_none,Option.map_some]
   split<;>simp[a0N]
  ·subst hys
   refine .ro _ _ _ b off _ us hb' (fun j hj=> ?_) (fun j hj=> ?_) (Nat.le_refl _) (by omega) (fun h=>rfl)
   ·simp at hj;exact hc _ (by omega)
   ·simp only[List.getElem_take]
    simp at hj
    exact hr _ (by omega)
theorem O.and_ {T T':Nat}{x y:Operand}{k:IntKind}{p q c:Int}(ho:o.op= .binOp .and T x y T')(hx:ev E x=some (.val (.int k p)))(hy:ev E y=some (.val (.int k q)))(hc:Go.bits .and k p q=c):OpW P N o E H (Is (.val (.int k c))):=
 O.binI ho hx hy fun W=>by simp[binOp,intBits_and,hc]
theorem O.or_ {T T':Nat}{x y:Operand}{k:IntKind}{p q c:Int}(ho:o.op= .binOp .or T x y T')(hx:ev E x=some (.val (.int k p)))(hy:ev E y=some (.val (.int k q)))(hc:Go.bits .or k p q=c):OpW P N o E H (Is (.val (.int k c))):=
 O.binI ho hx hy fun W=>by simp[binOp,intBits_or,hc]
theorem O.xor_ {T T':Nat}{x y:Operand}{k:IntKind}{p q c:Int}(ho:o.op= .binOp .xor T x y T')(hx:ev E x=some (.val (.int k p)))(hy:ev E y=some (.val (.int k q)))(hc:Go.bits .xor k p q=c):OpW P N o E H (Is (.val (.int k c))):=
 O.binI ho hx hy fun W=>by simp[binOp,intBits_xor,hc]
def c0p:List AV→Option (List Value)
 | []=>some []
 | .val v::r=>(c0p r).map (v:: ·)
 |_::_=>none
theorem d0D {R:Nat→Prop}{W:World}: ∀{xs:List AV} {us vs:List Value},c0p xs=some us→RelL R W xs vs→vs=us
 | [],us,vs,h,hr=>by
  cases h
  exact List.eq_nil_of_length_eq_zero (by simpa using hr.1)
 | x::xs,us,vs,h,hr=>by
  obtain⟨v,r,rfl,h1,h2⟩:=hr.uncons
  cases x with
  | val w=>
   simp only[c0p]at h
   cases hq:c0p xs with
   |none=>rw[hq]at h;cases h
   |some us'=>
    rw[hq]at h
    cases h
    rw[h1.val_inv,d0D hq h2]
  |_=>simp[c0p]at h
theorem O.binAgg {op:BinOp}{T T':Nat}{x y:Operand}{xs ys:List AV}{us vs:List Value}{v:Value}(ho:o.op= .binOp op T x y T')(hx:ev E x=some (.agg xs))(hy:ev E y=some (.agg ys))(hu:c0p xs=some us)(hv:c0p ys=some vs)
  (hg:P.eqGuardType P.depth T=false) (he: ∀W,(binOp op T (.agg us.toArray) (.agg vs.toArray)).run P W= .ok v W):OpW P N o E H (Is (.val v)):= .of_run fun R a W h1 h2 ha=>by
 obtain⟨us',e1,r1⟩:=(ha.ev hx).agg_inv
 obtain⟨vs',e2,r2⟩:=(ha.ev hy).agg_inv
 obtain rfl:=d0D hu r1
 obtain rfl:=d0D hv r2
 refine⟨v,?_,.val _⟩
 simp only[execOp,ho,e1,e2]
 rw[Sem.run_bind,Sem.run_bind,run_eqGuard_agg W op T x y _ _ hg,Result.andThen_ok,he W]
 rfl
theorem AQ.retCT {fn:Func}{Post:AV→List HE→Prop}{t s T k b T' room:Nat}{q:AV}{xs ys:List AV}{H':List HE}[hg:TyG P T true k](hr:fn.results= #[.cell t T,.tmp s])(ht:a0r E t=some (.val (.pointer (some ⟨b,0,none⟩))))(hs':a0r E s=some q)(hm:HE.blk b T' room xs∈H)(hv:xs.take k=ys)(hk:ys.length=k)
  (hH: ∃H1,H1.Sublist H∧H'.Perm H1) (hp:Post (.tup [.agg ys,q]) H'):AQ Γ (FnQ Γ P fn Post) .ret E H:=fun R a W hs ha=>by
 obtain⟨H1,h1,h2⟩:=hH
 obtain⟨us,cs,hb,hsz,hts,hrl⟩:=hs.ok _ hm
 have hrl:=hrl.take k
 rw[hv]at hrl
 have hl:=b0O hg W b 0 (us.take k) (by rw[hrl.1,hk]) (fun i u hi=>by
  rw[cell_of_row W b (0+i) cs T' (0,0) hb]
  rw[List.getElem?_take]at hi
  split at hi
  ·rw[←hts,List.getElem?_take]at hi
   split at hi
   ·simpa using hi
   ·cases hi
  ·cases hi)
 have hv':=(ha.slots t _ ht).val_inv
 have hq:=ha.slots s _ hs'
 refine⟨ha.defers,.tuple #[.agg (us.take k).toArray,a.eval (.tmp s)],?_,_,_,H',R,rfl,hp,?_,RelL.toTup (us:= [.agg (us.take k).toArray,a.eval (.tmp s)]) (RelL.cons hrl.toAgg (RelL.cons hq RelL.nil))⟩
 ·have:a.tmps.getD t undef= .pointer (some ⟨b,0,none⟩):=hv'
  simp[results,hr,Act.eval]at*
  simp[this,asAddr,hl]
 ·have:=(hs.sub h1).perm h2
  exact⟨this.mods,this.rlt,this.rsub,this.rnew,this.ok,this.own,this.disj⟩
theorem zm {fn:Func}{Post:AV→List HE→Prop}{t s T k b T' room:Nat}{q:AV}{xs ys:List AV}{H':List HE}(hr:fn.results= #[.cell t T,.tmp s]:=by exact rfl)(hg:TyG P T true k:=by infer_instance)(ht:a0r E t=some (.val (.pointer (some ⟨b,0,none⟩))):=by exact rfl)(hs':a0r E s=some q:=by exact rfl)(hm:HE.blk b T' room xs∈H:=by repeat(first|exact List.Mem.head _|refine List.Mem.tail _ ?_))(hv:xs.take k=ys:=by(dsimp only[List.set,cA,cN,List.take,List.drop];done))(hk:ys.length=k:=by rfl)(hH: ∃H1,H1.Sublist H∧H'.Perm H1:=by exact nS)(hp:Post (.tup [.agg ys,q]) H':=by exact⟨rfl,rfl⟩):AQ Γ (FnQ Γ P fn Post) .ret E H:=AQ.retCT hr ht hs' hm hv hk hH hp
theorem yd {fn:Func}{Post:AV→List HE→Prop}{t s T k b T' room:Nat}{q:AV}{xs ys:List AV}{H':List HE}(hr:fn.results= #[.cell t T,.tmp s]:=by exact rfl)(hg:TyG P T true k:=by infer_instance)(ht:a0r E t=some (.val (.pointer (some ⟨b,0,none⟩))):=by exact rfl)(hs':a0r E s=some q:=by exact rfl)(hm:HE.blk b T' room xs∈H:=by repeat(exact List.Mem.head _))(hv:xs.take k=ys:=by(dsimp only[List.set,cA,cN,List.take,List.drop];done))(hk:ys.length=k:=by rfl)(hH: ∃H1,H1.Sublist H∧H'.Perm H1:=by exact nS)(hp:Post (.tup [.agg ys,q]) H':=by exact⟨rfl,rfl⟩):AQ Γ (FnQ Γ P fn Post) .ret E H:=AQ.retCT hr ht hs' hm hv hk hH hp
theorem vN {fn:Func}{Post:AV→List HE→Prop}{t s T k b T' room:Nat}{q:AV}{xs ys:List AV}{H':List HE}(hr:fn.results= #[.cell t T,.tmp s]:=by exact rfl)(hg:TyG P T true k:=by infer_instance)(ht:a0r E t=some (.val (.pointer (some ⟨b,0,none⟩))):=by exact rfl)(hs':a0r E s=some q:=by exact rfl)(hm:HE.blk b T' room xs∈H:=by repeat(first|exact List.Mem.head _|refine List.Mem.tail _ ?_))(hv:xs.take k=ys:=by(dsimp only[List.set,List.append,cA,cN,a0w,a0v,a0y,a0e,a0A,AV.cells,List.map,List.map_cons,List.map_nil,List.take,List.drop,Nat.zero_add,Nat.add_zero,Nat.reduceAdd,Nat.reduceMul,Nat.zero_mul,Value.cells,List.toList_toArray,a0x,List.replicate,List.flatten,cP];done))(hk:ys.length=k:=by rfl)(hH: ∃H1,H1.Sublist H∧H'.Perm H1:=by exact nS)(hp:Post (.tup [.agg ys,q]) H':=by exact⟨rfl,rfl⟩):AQ Γ (FnQ Γ P fn Post) .ret E H:=AQ.retCT hr ht hs' hm hv hk hH hp
theorem a0H {H:List HE}: ∃H1,H1.Sublist H∧([]:List HE).Perm H1:=⟨[],List.nil_sublist _,.nil⟩
theorem a0B (i:Nat){e:HE}{r H:List HE}(h:H[i]? =some e)(hr: ∃H1,H1.Sublist (H.eraseIdx i)∧r.Perm H1): ∃H1,H1.Sublist H∧(e::r).Perm H1:=by
 obtain⟨H1,h1,h2⟩:=hr
 obtain⟨hlt,rfl⟩:=List.getElem?_eq_some_iff.1 h
 rw[List.eraseIdx_eq_take_drop_succ,List.sublist_append_iff]at h1
 obtain⟨A,B,rfl,hA,hB⟩:=h1
 refine⟨A++H[i]::B,?_,?_⟩
 ·have e:H=H.take i++H[i]::H.drop (i+1):=by rw[←List.drop_eq_getElem_cons hlt,List.take_append_drop]
  have h9:(A++H[i]::B).Sublist (H.take i++H[i]::H.drop (i+1)):=hA.append (hB.cons_cons _)
  rwa [←e]at h9
 ·exact(h2.cons _).trans (List.perm_middle.symm)
def f0m (K:Env)(I:Nat→Env→List HE→Prop):Nat→Env→List HE→Prop:=fun n E H=> ∃E1,I n E1 H∧E=E1++K
theorem i0u {K E1:Env}(h1: ∀p∈E1,a0r E p.1=some p.2)(h2: ∀p∈K,a0r E p.1=some p.2): ∀p∈E1++K,a0r E p.1=some p.2:=fun p hp=>by
 rcases List.mem_append.1 hp with hp|hp
 ·exact h1 p hp
 ·exact h2 p hp
theorem AW.loopK {c:Code}(K:Env)(I:Nat→Env→List HE→Prop)(n:Nat){E0:Env}{H0:List HE}(hI:I n E0 H0)(hK: ∀p∈K,a0r E p.1=some p.2)(hE: ∀p∈E0,a0r E p.1=some p.2)(hH: ∃H1,H1.Sublist H∧H0.Perm H1)
  (round: ∀n E1 H,I n E1 H→AW Γ P (d0A (f0m K I) n Γ Q) c (E1++K) H):AW Γ P Q (.loop c) E H:=
 AW.loop (f0m K I) n (E0:=E0++K) (H0:=H0) ⟨E0,hI,rfl⟩ (i0u hE hK) hH (by
  rintro n _ H ⟨E1,h,rfl⟩
  exact round n E1 H h)
theorem zi {c:Code}{E0:Env}{H0:List HE}(K:Env)(I:Nat→Env→List HE→Prop)(n:Nat)(hI:I n E0 H0)(round: ∀n E1 H,I n E1 H→AW Γ P (d0A (f0m K I) n Γ Q) c (E1++K) H)(hK: ∀p∈K,a0r E p.1=some p.2:=by repeat(first|exact a0l|refine a0j rfl ?_))(hE: ∀p∈E0,a0r E p.1=some p.2:=by repeat(first|exact a0l|refine a0j rfl ?_))(hH: ∃H1,H1.Sublist H∧H0.Perm H1:=by repeat(first|exact a0H|refine a0B 0 rfl ?_)):AW Γ P Q (.loop c) E H:=AW.loopK K I n hI hK hE hH round
theorem xQ {c:Code}{E0:Env}{H0:List HE}(K:Env)(I:Nat→Env→List HE→Prop)(n:Nat)(hI:I n E0 H0)(round: ∀n E1 H,I n E1 H→AW Γ P (d0A (f0m K I) n Γ Q) c (E1++K) H)(hK: ∀p∈K,a0r E p.1=some p.2:=by repeat(first|exact a0l|refine a0j rfl ?_))(hE: ∀p∈E0,a0r E p.1=some p.2:=by repeat(first|exact a0l|refine a0j rfl ?_))(hH: ∃H1,H1.Sublist H∧H0.Perm H1:=by repeat(first|exact a0H|refine a0B 0 rfl ?_|refine a0B 1 rfl ?_)):AW Γ P Q (.loop c) E H:=AW.loopK K I n hI hK hE hH round
theorem wT {c:Code}{E0:Env}{H0:List HE}(K:Env)(I:Nat→Env→List HE→Prop)(n:Nat)(hI:I n E0 H0)(round: ∀n E1 H,I n E1 H→AW Γ P (d0A (f0m K I) n Γ Q) c (E1++K) H)(hK: ∀p∈K,a0r E p.1=some p.2:=by repeat(first|exact a0l|refine a0j rfl ?_))(hE: ∀p∈E0,a0r E p.1=some p.2:=by repeat(first|exact a0l|refine a0j rfl ?_))(hH: ∃H1,H1.Sublist H∧H0.Perm H1:=by repeat(exact a0H)):AW Γ P Q (.loop c) E H:=AW.loopK K I n hI hK hE hH round
theorem AQ.loopKN {K:Env}{I:Nat→Env→List HE→Prop}{n:Nat}(m:Nat)(E1:Env)(H0:List HE)(hm:m<n)(hI:I m E1 H0)(hK: ∀p∈K,a0r E p.1=some p.2)(hE: ∀p∈E1,a0r E p.1=some p.2)(hH: ∃H1,H1.Sublist H∧H0.Perm H1):
  AQ Γ (d0A (f0m K I) n Γ Q) .normal E H:=AQ.loopN m (E1++K) H0 hm ⟨E1,hI,rfl⟩ (i0u hE hK) hH
theorem zu {K:Env}{I:Nat→Env→List HE→Prop}{n:Nat}(m:Nat)(E1:Env)(H0:List HE)(hm:m<n)(hI:I m E1 H0)(hK: ∀p∈K,a0r E p.1=some p.2:=by repeat(first|exact a0l|refine a0j rfl ?_))(hE: ∀p∈E1,a0r E p.1=some p.2:=by repeat(first|exact a0l|refine a0j rfl ?_))(hH: ∃H1,H1.Sublist H∧H0.Perm H1:=by repeat(first|exact a0H|refine a0B 0 rfl ?_)):AQ Γ (d0A (f0m K I) n Γ Q) .normal E H:=AQ.loopKN m E1 H0 hm hI hK hE hH
theorem zL {K:Env}{I:Nat→Env→List HE→Prop}{n:Nat}(m:Nat)(E1:Env)(H0:List HE)(hm:m<n)(hI:I m E1 H0)(hK: ∀p∈K,a0r E p.1=some p.2:=by repeat(first|exact a0l|refine a0j rfl ?_))(hE: ∀p∈E1,a0r E p.1=some p.2:=by repeat(first|exact a0l|refine a0j rfl ?_))(hH: ∃H1,H1.Sublist H∧H0.Perm H1:=by repeat(first|exact a0H|refine a0B 1 rfl ?_)):AQ Γ (d0A (f0m K I) n Γ Q) .normal E H:=AQ.loopKN m E1 H0 hm hI hK hE hH
theorem xG {K:Env}{I:Nat→Env→List HE→Prop}{n:Nat}(m:Nat)(E1:Env)(H0:List HE)(hm:m<n)(hI:I m E1 H0)(hK: ∀p∈K,a0r E p.1=some p.2:=by repeat(first|exact a0l|refine a0j rfl ?_))(hE: ∀p∈E1,a0r E p.1=some p.2:=by repeat(first|exact a0l|refine a0j rfl ?_))(hH: ∃H1,H1.Sublist H∧H0.Perm H1:=by repeat(first|exact a0H|refine a0B 0 rfl ?_|refine a0B 1 rfl ?_)):AQ Γ (d0A (f0m K I) n Γ Q) .normal E H:=AQ.loopKN m E1 H0 hm hI hK hE hH
theorem wl {K:Env}{I:Nat→Env→List HE→Prop}{n:Nat}(m:Nat)(E1:Env)(H0:List HE)(hm:m<n)(hI:I m E1 H0)(hK: ∀p∈K,a0r E p.1=some p.2:=by repeat(first|exact a0l|refine a0j rfl ?_))(hE: ∀p∈E1,a0r E p.1=some p.2:=by repeat(first|exact a0l|refine a0j rfl ?_))(hH: ∃H1,H1.Sublist H∧H0.Perm H1:=by repeat(first|exact a0H|refine a0B 0 rfl ?_|refine a0B 1 rfl ?_|refine a0B 3 rfl ?_)):AQ Γ (d0A (f0m K I) n Γ Q) .normal E H:=AQ.loopKN m E1 H0 hm hI hK hE hH
theorem wD {K:Env}{I:Nat→Env→List HE→Prop}{n:Nat}(m:Nat)(E1:Env)(H0:List HE)(hm:m<n)(hI:I m E1 H0)(hK: ∀p∈K,a0r E p.1=some p.2:=by repeat(first|exact a0l|refine a0j rfl ?_))(hE: ∀p∈E1,a0r E p.1=some p.2:=by repeat(first|exact a0l|refine a0j rfl ?_))(hH: ∃H1,H1.Sublist H∧H0.Perm H1:=by repeat(first|exact a0H|refine a0B 0 rfl ?_|refine a0B 2 rfl ?_)):AQ Γ (d0A (f0m K I) n Γ Q) .normal E H:=AQ.loopKN m E1 H0 hm hI hK hE hH
theorem wH {K:Env}{I:Nat→Env→List HE→Prop}{n:Nat}(m:Nat)(E1:Env)(H0:List HE)(hm:m<n)(hI:I m E1 H0)(hK: ∀p∈K,a0r E p.1=some p.2:=by repeat(first|exact a0l|refine a0j rfl ?_))(hE: ∀p∈E1,a0r E p.1=some p.2:=by repeat(first|exact a0l|refine a0j rfl ?_))(hH: ∃H1,H1.Sublist H∧H0.Perm H1:=by repeat(exact a0H)):AQ Γ (d0A (f0m K I) n Γ Q) .normal E H:=AQ.loopKN m E1 H0 hm hI hK hE hH
theorem wJ {K:Env}{I:Nat→Env→List HE→Prop}{n:Nat}(m:Nat)(E1:Env)(H0:List HE)(hm:m<n)(hI:I m E1 H0)(hK: ∀p∈K,a0r E p.1=some p.2:=by repeat(exact a0l))(hE: ∀p∈E1,a0r E p.1=some p.2:=by repeat(first|exact a0l|refine a0j rfl ?_))(hH: ∃H1,H1.Sublist H∧H0.Perm H1:=by repeat(exact a0H)):AQ Γ (d0A (f0m K I) n Γ Q) .normal E H:=AQ.loopKN m E1 H0 hm hI hK hE hH
theorem b0U {R:Nat→Prop}{W:World}{a:Act}{low high:Option Operand}{n cap:Nat}{l h:Int}(ha:RelA N R W E a)(hl:d0e E low 0=some l)(hh:d0e E high n=some h)(h0:0≤l∧l≤h∧h≤cap):
  (Instr.sliceBounds true n cap (low.map a.eval) (high.map a.eval) none).run P W= .ok (l.toNat,h.toNat,cap) W:=by
 obtain⟨h1,h2,hhc⟩:=h0
 cases high with
 | none=>
  obtain rfl:(n:Int)=h:=by simpa[d0e]using hh
  cases low with
  |none=>
   obtain rfl:(0:Int)=l:=by simpa[d0e]using hl
   simp[Instr.sliceBounds]
  |some x=>
   obtain⟨k,hk⟩:=e0E ha hl
   simp[Instr.sliceBounds,Instr.sliceBound,hk,asIntOf,h1,h2]
 | some y=>
  obtain⟨k',hk'⟩:=e0E ha hh
  have h4:0≤h:=by omega
  cases low with
  |none=>
   obtain rfl:(0:Int)=l:=by simpa[d0e]using hl
   simp[Instr.sliceBounds,Instr.sliceBound,hk',asIntOf,h4,hhc]
  |some x=>
   obtain⟨k,hk⟩:=e0E ha hl
   have h5:l≤max h 0:=by omega
   simp[Instr.sliceBounds,Instr.sliceBound,hk,hk',asIntOf,h1,h4,hhc]
   omega
theorem O.sliceV {T:Nat}{x:Operand}{low high:Option Operand}{b off n c:Nat}{l h:Int}{U sz bs:Nat}{zz:Value}[hs:TyS P T U sz bs zz](ho:o.op= .slice T x low high none)(hx:ev E x=some (.val (.slice (some ⟨b,off,none⟩) n c)))(hl:d0e E low 0=some l)(hh:d0e E high n=some h)(h0:0≤l∧l≤h∧h≤c)
  (hc:l<c):OpW P N o E H (Is (.val (.slice (some ⟨b,off+l.toNat*sz,none⟩) (h.toNat-l.toNat) (c-l.toNat)))):= .of_run fun R a W h1 h2 ha=>by
 obtain⟨i,hi,hi2, -⟩:=hs.el
 have hb:=b0U (P:=P) (W:=W) (cap:=c) ha hl hh h0
 refine⟨_,?_,.val _⟩
 have hne: ¬c=l.toNat:=by omega
 simp only[execOp,ho,(ha.ev hx).val_inv,Instr.sliceAt,Instr.slice,run_underlying hs.ty,Sem.run_bind,Result.andThen_ok,hb,sizeOf,typeInfo,hi,hi2,run_program,Sem.run_pure,Option.map_none]
 simp[hne,a0N]
theorem wA {T:Nat}{x:Operand}{low high:Option Operand}{b off n c:Nat}{l h:Int}{U sz bs:Nat}{zz:Value}(ho:o.op= .slice T x low high none:=by exact rfl)(hs:TyS P T U sz bs zz:=by infer_instance)(hx:ev E x=some (.val (.slice (some ⟨b,off,none⟩) n c)):=by exact rfl)(hl:d0e E low 0=some l:=by exact rfl)(hh:d0e E high n=some h:=by exact rfl)(h0:0≤l∧l≤h∧h≤c:=by exact⟨by omega,by omega,by omega⟩)(hc:l<c:=by omega):OpW P N o E H (Is (.val (.slice (some ⟨b,off+l.toNat*sz,none⟩) (h.toNat-l.toNat) (c-l.toNat)))):=O.sliceV ho hx hl hh h0 hc
theorem O.sliceV0 {T:Nat}{x:Operand}{low high:Option Operand}{b off n c:Nat}{l h:Int}{U sz bs:Nat}{zz:Value}[hs:TyS P T U sz bs zz](ho:o.op= .slice T x low high none)(hx:ev E x=some (.val (.slice (some ⟨b,off,none⟩) n c)))(hl:d0e E low 0=some l)(hh:d0e E high n=some h)(h0:0≤l∧l≤h∧h≤c)
  (hc:h=l) (hcm:c≤maxLen):OpW P N o E H (Is (.ro false 0 [])):= .of_run fun R a W h1 h2 ha=>by
 obtain⟨i,hi,hi2, -⟩:=hs.el
 subst hc
 have hb:=b0U (P:=P) (W:=W) (cap:=c) ha hl hh h0
 refine⟨.slice (if c=h.toNat then some ⟨b,off,none⟩else some ⟨b,off+h.toNat*sz,none⟩) 0 (c-h.toNat),?_,.emp _ _ _ (fun h=>by cases h) (by omega)⟩
 simp only[execOp,ho,(ha.ev hx).val_inv,Instr.sliceAt,Instr.slice,run_underlying hs.ty,Sem.run_bind,Result.andThen_ok,hb,sizeOf,typeInfo,hi,hi2,run_program,Sem.run_pure,Option.map_none]
 split<;>simp[a0N]
theorem O.sliceLH {T:Nat}{x y y':Operand}{full:Bool}{n l h:Nat}{kk kk':IntKind}{z z':Int}{xs ys:List AV}{U sz bs:Nat}{zz:Value}[hs:TyS P T U sz bs zz](ho:o.op= .slice T x (some y) (some y') none)(hx:ev E x=some (.ro full n xs))(hy:ev E y=some (.val (.int kk z)))(hy':ev E y'=some (.val (.int kk' z')))
  (hz:z=(l:Int)) (hz':z'=(h:Int)) (hlh:l≤h) (hhn:h≤n) (hys:(xs.drop (l*sz)).take ((h-l)*sz)=ys):OpW P N o E H (Is (.ro false (h-l) ys)):=by
 subst hz
 subst hz'
 refine O.sliceR (l:=(l:Int)) (h:=(h:Int)) (m:=h-l) ho hx (by simp[d0e,hy]) (by simp[d0e,hy']) ⟨by omega,by omega,by omega⟩ (by simp) (by simpa using hys) (fun h0=> ?_)
 rw[←hys,h0];simp
theorem AO.appendCut {T T2 U k bs d:Nat}{z:Value}{s x:Operand}{w:AV}{i b n m cap:Nat}{xs ys zs:List AV}{H':Value→List HE}[hs:TyS P T U k bs z](ho:o.op= .call {callee:= .builtin .append,args:= #[s,x],argTypes:= #[T,T2]})(hgd:o.guard=none)(hd:o.dst=some d)(hN:Nat.ble (d+1) Γ.N=true)
  (hz:Nat.beq z.cells.size k=true) (hk:Nat.ble 1 k=true) (hv:ev E s=some (.val (.slice (some ⟨b,0,none⟩) n cap))) (hx:ev E x=some w) (hi:H[i]? =some (.blk b U (cap*k) xs)) (hnl:n*k≤xs.length) (hsrc:SrcA P T2 k H w m ys) (hone:ys.all AV.one=true) (hn:n+m≤maxLen) (hby:(n+m)*bs≤140737488355328) (hcap:n≤cap∧cap≤maxLen)
  (hzs:xs.take (n*k)++ys=zs) (hH: ∀v',H.set i (.row v' U k (n+m) zs)=H' v')
  (next: ∀v':Value,v'.oneCell'=true→AO Γ P ops Q rest ((d,.val v')::E) (H' v')):AO Γ P ops Q (o::rest) E H:=fun R a W hs' ha=>by
 have hmem:=List.mem_of_getElem? hi
 obtain⟨us0,cs,hb,hsz,ht,hr0⟩:=hs'.ok _ hmem
 have hr:=hr0.take (n*k)
 have hown:W.ownsRow 0 U k (.slice (some ⟨b,0,none⟩) n cap) n (us0.take (n*k)):=
  ⟨by rw[hr.1,List.length_take];omega,.inr ⟨b,cap,cs,rfl,Nat.zero_le _,hb,hcap.1,hcap.2,by omega,by rw[←ht,List.take_take];congr 1;omega⟩⟩
 obtain⟨news,h1,h2⟩:=hsrc.2 R W (a.eval x) hs'.ok (ha.ev hx)
 obtain⟨v',W',hrun,hown',hgr,hblk,h1c⟩:=c0B hs (Nat.eq_of_beq_eq_true hz) (lB hk) hown (h2 (h1.all_one hone)) hn hby o.type
 unfold wpList
 rw[if_pos (by unfold Region.wanted;rw[hgd])]
 refine .inl ?_
 unfold Oper.wp
 rw[e0h ho (by rw[(ha.ev hv).val_inv];exact hrun)]
 show wpList P ops Q rest (a.put o.dst v') W'
 rw[hd]
 have hm:Mods (fun c=>(HE.blk b U (cap*k) xs).foot c) W W':=Mods.grown (Mods.refl _ _) hgr fun c hc _=>by
  have:some b=some c:=hc
  cases this;rfl
 have hR: ∀c,R c→W'.heap[c]? =W.heap[c]? :=fun c hc=>hm.block c (hs'.rlt c hc) fun hh=>(hs'.own _ hmem c hh).2 hc
 have this:=next v' h1c R (a.put (some d) v') W'
 rw[←hH,←hzs]at this
 refine this (hs'.setEntry hi hm (fun c hc=> ?_) ⟨_,hown',(hr.app h1).mono (fun _ h=>h) hR⟩) ((ha.keep hR).put (lB hN) (.val _))
 rcases hblk with hb|hb
 ·rw[HE.foot,hb]at hc
  have:some b=some c:=hc
  cases this;exact .inl rfl
 ·rw[HE.foot,hb]at hc;cases hc;exact .inr (Nat.le_refl _)
theorem O.makeSlice {T U k bs : Nat} {z : Value} {x y : Operand} {n : Nat} {kl kc : IntKind} {p q : Int}[hs:TyS P T U k bs z](ho:o.op= .makeSlice T x y)(hx:ev E x=some (.val (.int kl p)))(hy:ev E y=some (.val (.int kc q)))(hp:p=(n:Int))(hq:q=(n:Int))(hn:n*bs≤140737488355328)(hn2:n≤maxLen)(hzk:Nat.beq z.cells.size k=true):
    OpW P N o E H (b0j (fun b=> .val (.slice (some ⟨b,0,none⟩) n n)) U (n*k) (a0x n z)):=fun R a W h0 h2 h3' ha=>by
  obtain⟨i,hi,hik,hib,hz⟩:=hs.el
  subst hp
  subst hq
  unfold maxLen at hn2
  have hr:(execOp a.eval o).run P W= .ok (.value (.slice (some ⟨W.heap.size,0,none⟩) n n)) (W.alloc (.cells (madeCells z.cells (n*k)) U)):=by
    simp only[execOp,ho,(ha.ev hx).val_inv,(ha.ev hy).val_inv]
    rw [Sem.run_bind, run_make (P := P) W T U i z hs.ty hi hz kl kc n n (by omega) (Int.le_refl _) (by rw[hib];have:((n*bs:Nat):Int)≤140737488355328:=by omega
                                                                                                       rw[Int.natCast_mul,Int.mul_comm]at this;omega) (by omega)]
    simp only[Int.toNat_natCast,hik]
    rfl
  unfold Oper.wp
  rw[hr]
  refine⟨_,_,_,R,rfl,⟨W.heap.size,rfl,rfl⟩,e0r h0 U _ (n*k) (a0x n z) (size_madeCells _ _) ?_ (fun _ _=> .val _)⟩
  have e:(madeCells z.cells (n*k)).toList.map AV.val=a0x n z:=by
    unfold madeCells a0x
    rw[f0N z k (Nat.eq_of_beq_eq_true hzk) n,List.map_flatten,List.map_replicate]
  rw[←e,List.length_map,List.take_length]
  exact d0p R W _
theorem O.toBytes {S T U:Nat}{x:Operand}{s:ByteArray}{l:List UInt8}[hS:TyD P S .string][hT:TyD P T (.slice U)][hU:TyD P U (.int .u8)](ho:o.op= .convert S T x)(hx:ev E x=some (.val (.string s)))(hl:s.data.toList=l)(hm:l.length≤maxLen):
  OpW P N o E H (Is (roB l)):=fun R a W h0 h2 h3 ha=>by
 have hr:(execOp a.eval o).run P W= .ok (.value (.slice (some ⟨W.heap.size,0,none⟩) s.size (grownCap W s.size 0 U)))
   (W.drew.alloc (.cells (bytesRow s (grownCap W s.size 0 U)) U ((bytesRow s (grownCap W s.size 0 U)).size,(bytesRow s (grownCap W s.size 0 U)).size+1))):=by
  simp only[execOp,ho,(ha.ev hx).val_inv]
  rw[Sem.run_bind,run_bytes_of_string W S T U s hS.ax hT.ax hU.ax]
  rfl
 have hsz:s.size=l.length:=by rw[←hl];exact Array.length_toList.symm
 unfold Oper.wp
 rw[hr]
 have hE:Ext W (W.drew.alloc (.cells (bytesRow s (grownCap W s.size 0 U)) U ((bytesRow s (grownCap W s.size 0 U)).size,(bytesRow s (grownCap W s.size 0 U)).size+1))):=Mods.alloc (Mods.drew (Mods.refl _ _)) _
 have hnew:=heap_alloc_new W.drew (.cells (bytesRow s (grownCap W s.size 0 U)) U ((bytesRow s (grownCap W s.size 0 U)).size,(bytesRow s (grownCap W s.size 0 U)).size+1))
 refine⟨_,roB l,[],fun b=>R b∨b=W.heap.size,rfl,⟨rfl,rfl⟩,hE,fun _ h=> .inl h,?_,?_,fun _ he=>(by cases he),.nil⟩
 ·rintro b (hb|rfl)
  ·exact .inl hb
  ·refine .inr ⟨Nat.le_refl _,?_⟩
   have h9:W.drew.heap.size=W.heap.size:=rfl
   rw[h9]at hnew
   exact(Array.getElem?_eq_some_iff.1 hnew).1
 ·unfold roB
  rw[hsz]
  refine .ro false l.length (a0a l) W.heap.size 0 _ (fun j=> .int .u8 ((l.getD j 0).toNat:Int)) (.inr rfl) (fun j hj=> ?_) (fun j hj=> ?_) ?_ ?_ (fun h=>by cases h)
  ·have hj':j<l.length:=by simpa using hj
   have hj2:j<s.data.size:=by rw[←hl]at hj';simpa using hj'
   have hcell:(bytesRow s (grownCap W l.length 0 U))[j]? =some (.int .u8 ((l.getD j 0).toNat:Int)):=by
    rw[bytesRow_at s _ j hj2]
    subst hl
    simp[List.getD,Array.getElem?_eq_getElem hj2]
   have h9:W.drew.heap.size=W.heap.size:=rfl
   rw[h9]at hnew
   rw[Nat.zero_add]
   rw[hsz]at hnew
   simp only[World.cell?,hnew]
   simpa using hcell
  ·have hj':j<l.length:=by simpa using hj
   simp only[a0a,List.getElem_map,List.getD,List.getElem?_eq_getElem hj',Option.getD_some]
   exact .val _
  ·rw[←hsz];exact grownCap_ge ..
  ·exact grownCap_le_maxLen _ _ _ _ hm
end
section
variable {P:Program}{ops:Array Oper}{N:Nat}
theorem Oper.wp_put {o:Oper}{a:Act}{w:World}{K:Act→World→Prop}{Q:Exit→Act→World→Prop}(h:o.wp P a w K Q):o.wp P a w (fun A' W'=>K A' W'∧((∃u,A'=a.put o.dst u)∨A'.defers≠ [])) Q:=by
 unfold Oper.wp at h⊢
 cases hr:(execOp a.eval o).run P w with
 | ok n w'=>
  rw[hr]at h
  cases n with
  |value v=>exact⟨h,.inl ⟨v,rfl⟩⟩
  |skip=>exact⟨h,.inl ⟨_,rfl⟩⟩
  |defer d=>exact⟨h,.inr (by simp[Act.put];split<;>simp)⟩
  |enter f args=>
   refine Calls.mono h ?_
   intro e w'' he
   cases e with
   |returned v=>exact⟨he,.inl ⟨v,rfl⟩⟩
   |_=>exact he
  |row r args=>
   refine Rows.mono h ?_
   intro v w'' he
   exact⟨he,.inl ⟨v,rfl⟩⟩
  |_=>exact h
 |halt x w'=>
  rw[hr]at h
  cases x<;>exact h
theorem b0e {E:Env}{d:Nat}{v:AV}: ∀{ts:List Nat},d∉ts→rst ((d,v)::E) ts=rst E ts
 | [],_=>rfl
 | t::r,h=>by
  simp only[List.mem_cons,not_or]at h
  have hb:Nat.beq d t=false:=by
   cases hb:Nat.beq d t with
   |false=>rfl
   |true=>exact absurd (Nat.eq_of_beq_eq_true hb) h.1
  have hl:a0r ((d,v)::E) t=a0r E t:=by simp only[a0r,hb];rfl
  rw[rst,rst,hl,b0e h.2]
theorem a0J {E:Env}{d t:Nat}{v:AV}(h:d≠t):a0r ((d,v)::E) t=a0r E t:=by
 have hb:Nat.beq d t=false:=by
  cases hb:Nat.beq d t with
  |false=>rfl
  |true=>exact absurd (Nat.eq_of_beq_eq_true hb) h
 simp only[a0r,hb];rfl
theorem b0n {E:Env}{d:Nat}{v:AV}:a0r ((d,v)::E) d=some v:=by simp[a0r]
def QS (Γ:Cx)(d:Option Nat)(S:AV→List HE→Prop):Exit→Act→World→Prop:=fun x a W=>
 match x with
 | .normal=>a.defers= []∧ ∃v H' R',S v H'∧RelS Γ R' H' W∧ ∀t,d=some t→RelV R' W v (a.eval (.tmp t))
 |_=>False
def a0q:Option Nat→AV→Env→Env
 |some d,v,E=>(d,v)::E
 |none,_,E=>E
def AM (P:Program)(N:Nat)(ops:Array Oper)(Hs:List HE)(K:Env→List HE→Prop):List (Nat×Bool)→Env→List HE→Prop
 | [],E,H=>K E H
 |(i,true)::r,E,H=> ∃o,ops[i]? =some o∧ ∀w0 R0,AO ⟨w0,a0E H,R0,N⟩ P ops (QS ⟨w0,a0E H,R0,N⟩ o.dst (fun v H'=>AM P N ops Hs K r (a0q o.dst v E) H')) [o] (rst E (o.looksAt ops)) H
 |(i,false)::r,E,H=> ∃o d v,ops[i]? =some o∧o.dst=some d∧d<N∧OpF P N ops o (rst E (o.looksAt ops)) Hs (Is v)∧AM P N ops Hs K r ((d,v)::E) H
def e0X (ops:Array Oper)(an:List (List Nat))(i:Nat)(b:Bool)(j:Nat)(c:Bool):Bool:=
 match ops[i]?,ops[j]?with
 | some oi,some oj=>
  let waits:=oj.after.any fun e=>Region.binds .any e&&e.on==i
  let anc:=(an.getD j []).contains i
  (i !=j)&&(!b||anc)&&
  (match oj.dst with
   |some d=>if c then(!((oi.looksAt ops).contains d||oi.dst==some d))||anc else !(oi.looksAt ops).contains d&&oi.dst !=some d
   |none=>c)&&
  (match oi.dst with
   |some d=> !(oj.looksAt ops).contains d||waits
   |none=>true)
 |_,_=>false
def b0f (ops:Array Oper)(an:List (List Nat)):List (Nat×Bool)→Bool
 | []=>true
 |(i,b)::r=>(b||(match ops[i]?with|some o=>(match o.dst with|some d=> !(o.looksAt ops).contains d|none=>false)|none=>false))&&r.all (fun q=>e0X ops an i b q.1 q.2)&&b0f ops an r
def q0T (ops:Array Oper)(ord:List (Nat×Bool)):Bool:=
 ((List.range ops.size).all fun i=>(ord.map Prod.fst).contains i)&&(ord.all fun q=>decide (q.1<ops.size))&&
 ((List.range ops.size).all fun i=>(ops[i]?).all fun o=>o.after.all fun e=> !Region.binds .any e||decide (e.on<i))&&b0f ops (c0P ops.toList []) ord
theorem a0m {an:List (List Nat)}: ∀{pre r:List (Nat×Bool)},b0f ops an (pre++r)=true→b0f ops an r=true∧ ∀q∈pre,∀s∈r,e0X ops an q.1 q.2 s.1 s.2=true
 | [],r,h=>⟨h,fun q hq=>by cases hq⟩
 |(i,b)::pre,r,h=>by
  rw[cA,b0f]at h
  simp only[Bool.and_eq_true,List.all_eq_true]at h
  obtain⟨h1,h2⟩:=a0m h.2
  refine⟨h1,fun q hq s hs=> ?_⟩
  rcases List.mem_cons.1 hq with rfl|hq
  ·exact h.1.2 s (List.mem_append_right _ hs)
  ·exact h2 q hq s hs
structure PairOk (ops:Array Oper) (an:List (List Nat)) (i:Nat) (b:Bool) (oi:Oper) (j:Nat) (c:Bool) (oj:Oper):Prop where
 ne:i≠j
 main:b=true→i∈an.getD j []
 flt:c=false→ ∃d,oj.dst=some d∧d∉oi.looksAt ops∧oi.dst≠some d
 mn:c=true→ ∀d,oj.dst=some d→(d∈oi.looksAt ops∨oi.dst=some d)→i∈an.getD j []
 reads: ∀d,oi.dst=some d→d∈oj.looksAt ops→ ∃e∈oj.after,Region.binds .any e=true∧e.on=i
theorem b0J {an:List (List Nat)}{i j:Nat}{b c:Bool}{oi oj:Oper}(h:e0X ops an i b j c=true)(hi:ops[i]? =some oi)(hj:ops[j]? =some oj):PairOk ops an i b oi j c oj:=by
 unfold e0X at h
 rw[hi,hj]at h
 simp only[Bool.and_eq_true,bne_iff_ne,ne_eq]at h
 obtain⟨⟨⟨h1,h2⟩,h3⟩,h4⟩:=h
 refine⟨h1,fun hb=> ?_,fun hc=> ?_,fun hc d hd hm=> ?_,fun d hd hm=> ?_⟩
 ·subst hb;simpa using h2
 ·subst hc
  cases hd:oj.dst with
  |none=>rw[hd]at h3;cases h3
  |some d=>
   rw[hd]at h3
   simp at h3
   exact⟨d,rfl,h3.1,h3.2⟩
 ·subst hc
  rw[hd]at h3
  simp at h3
  rcases h3 with h3|h3
  ·rcases hm with hm|hm
   ·exact absurd hm h3.1
   ·exact absurd hm h3.2
  ·exact h3
 ·rw[hd]at h4
  simp only[Bool.or_eq_true,Bool.not_eq_true',List.contains_eq_mem,decide_eq_false_iff_not]at h4
  rcases h4 with h4|h4
  ·exact absurd hm h4
  ·obtain⟨x,hx,hx2⟩:=e0i h4
   simp only[Bool.and_eq_true,beq_iff_eq]at hx2
   exact⟨x,hx,hx2.1,hx2.2⟩
theorem RelS.part {Γ:Cx}{R R':Nat→Prop}{Hm Hs H':List HE}{W W':World}(hs0:RelS Γ R (Hm++Hs) W)(hs':RelS ⟨W,a0E Hm,R,N⟩ R' H' W'):RelS Γ R' (H'++Hs) W'∧ ∀b,R b→W'.heap[b]? =W.heap[b]? :=by
 have hS0: ∀b,a0E Hm b→Γ.w0.heap.size≤b∨Γ.S b:=fun b ⟨e,he,hb⟩=>(hs0.own e (List.mem_append_left _ he) b hb).1
 have hnR: ∀b,a0E Hm b→ ¬R b:=fun b ⟨e,he,hb⟩=>(hs0.own e (List.mem_append_left _ he) b hb).2
 have h1lt: ∀e∈Hs,∀b,e.foot b→b<W.heap.size:=fun e he b hb=>HE.ok_lt (hs0.ok e (List.mem_append_right _ he)) hb
 have h10: ∀e∈Hs,∀b,e.foot b→ ¬a0E Hm b:=fun e he b hb ⟨f,hf,hb'⟩=>(List.pairwise_append.1 hs0.disj).2.2 f hf e he b hb' hb
 have hR: ∀b,R b→W'.heap[b]? =W.heap[b]? :=fun b hb=>hs'.mods.block b (hs0.rlt b hb) fun hh=>hnR b hh hb
 refine⟨⟨Mods.then hs0.mods hs'.mods fun b hb hh=> ?_,hs'.rlt,fun b hb=>hs'.rsub b (hs0.rsub b hb),fun b hb=> ?_,?_,?_,?_⟩,hR⟩
 ·rcases hS0 b hh with h|h
  ·omega
  ·exact h
 ·rcases hs'.rnew b hb with h|h|h
  ·exact hs0.rnew b h
  ·exact .inr (.inl (Nat.le_trans hs0.mods.size h))
  ·exact .inr (hS0 b h)
 ·intro e he
  rcases List.mem_append.1 he with he|he
  ·exact hs'.ok e he
  ·exact HE.ok_mono hs'.rsub hR hs'.mods.size (fun b hb=>hs'.mods.block b (h1lt e he b hb) (h10 e he b hb)) (hs0.ok e (List.mem_append_right _ he))
 ·intro e he b hb
  rcases List.mem_append.1 he with he|he
  ·obtain⟨h2,h3⟩:=hs'.own e he b hb
   refine⟨?_,h3⟩
   rcases h2 with h2|h2
   ·exact .inl (Nat.le_trans hs0.mods.size h2)
   ·exact hS0 b h2
  ·refine⟨(hs0.own e (List.mem_append_right _ he) b hb).1,fun hr=> ?_⟩
   rcases hs'.rnew b hr with h|h|h
   ·exact(hs0.own e (List.mem_append_right _ he) b hb).2 h
   ·have h5:=h1lt e he b hb
    exact absurd h (by simpa using h5)
   ·exact h10 e he b hb h
 ·rw[List.pairwise_append]
  refine⟨hs'.disj,(List.pairwise_append.1 hs0.disj).2.1,fun e he f hf b hb hb'=> ?_⟩
  rcases(hs'.own e he b hb).1 with h|h
  ·have h5:=h1lt f hf b hb'
   exact absurd h (by simpa using h5)
  ·exact h10 f hf b hb' h
structure MI (P:Program) (Γ:Cx) (ops:Array Oper) (Hs:List HE) (K:Env→List HE→Prop) (ord:List (Nat×Bool)) (listed:Array Bool) (A:Act) (W:World) (pre ms:List (Nat×Bool)) (Pd:List Nat) (E:Env) (H:List HE) (R:Nat→Prop):Prop where
 size:listed.size=ops.size
 closed:c0O ops listed
 part: ∀i,i<ops.size→(listed.getD i false=false↔i∈Pd∨i∈ms.map Prod.fst)
 ord:ord=pre++ms
 pdp: ∀i∈Pd,(i,false)∈pre
 am:AM P Γ.N ops Hs K ms E H
 pend: ∀i∈Pd,∃o d v,ops[i]? =some o∧o.dst=some d∧d<Γ.N∧a0r E d=some v∧OpF P Γ.N ops o (rst E (o.looksAt ops)) Hs (Is v)
 rels:RelS Γ R (H++Hs) W
 defers:A.defers= []
 tmps:A.tmps.size=Γ.N
 act: ∀t v,a0r E t=some v→(∀i∈Pd,∀o,ops[i]? =some o→o.dst≠some t)→RelV R W v (A.eval (.tmp t))
variable {Γ:Cx}{Hs:List HE}{K:Env→List HE→Prop}{ord:List (Nat×Bool)}
theorem MI.absorb {listed:Array Bool}{A:Act}{W:World}{R:Nat→Prop}(hok:b0f ops (c0P ops.toList []) ord=true): ∀(ms pre:List (Nat×Bool)) (Pd:List Nat) (E:Env) (H:List HE),MI P Γ ops Hs K ord listed A W pre ms Pd E H R→
  ∃pre' ms' Pd' E',MI P Γ ops Hs K ord listed A W pre' ms' Pd' E' H R∧(ms'= []∨ ∃m r,ms'=(m,true)::r)
 | [],pre,Pd,E,H,h=>⟨pre,[],Pd,E,h,.inl rfl⟩
 |(m,true)::r,pre,Pd,E,H,h=>⟨pre,_,Pd,E,h,.inr ⟨m,r,rfl⟩⟩
 | (j,false)::r,pre,Pd,E,H,h=>by
  obtain⟨o,d,v,ho,hd,hN,hop,ham⟩:=h.am
  have hord:=h.ord
  have hq:=a0m (pre:=pre) (r:=(j,false)::r) (by rw[←hord];exact hok)
  have hself:d∉o.looksAt ops:=by
   have:=hq.1
   rw[b0f]at this
   simp only[Bool.and_eq_true,ho,hd,Bool.false_or]at this
   simpa using this.1.1
  have hp: ∀i∈Pd,∀oi,ops[i]? =some oi→d∉oi.looksAt ops∧oi.dst≠some d:=fun i hi oi hoi=>by
   have:=b0J (hq.2 _ (h.pdp i hi) (j,false) (List.mem_cons_self ..)) hoi ho
   obtain⟨d',h1,h2,h3⟩:=this.flt rfl
   rw[hd]at h1
   cases h1
   exact⟨h2,h3⟩
  refine MI.absorb hok r (pre++[(j,false)]) (j::Pd) ((d,v)::E) H ⟨h.size,h.closed,fun i hi=> ?_,by rw[hord];simp,fun i hi=> ?_,ham,fun i hi=> ?_,h.rels,h.defers,h.tmps,fun t x ht hpd=> ?_⟩
  ·rw[h.part i hi]
   simp only[List.map_cons,List.mem_cons]
   constructor
   ·rintro(h|h|h)
    ·exact .inl (.inr h)
    ·exact .inl (.inl h)
    ·exact .inr h
   ·rintro((h|h)|h)
    ·exact .inr (.inl h)
    ·exact .inl h
    ·exact .inr (.inr h)
  ·rcases List.mem_cons.1 hi with rfl|hi
   ·simp
   ·exact List.mem_append_left _ (h.pdp i hi)
  ·rcases List.mem_cons.1 hi with rfl|hi
   ·exact⟨o,d,v,ho,hd,hN,b0n,by rw[b0e hself];exact hop⟩
   ·obtain⟨oi,di,vi,h1,h2,h3,h4,h5⟩:=h.pend i hi
    obtain⟨h6,h7⟩:=hp i hi oi h1
    refine⟨oi,di,vi,h1,h2,h3,?_,by rw[b0e h6];exact h5⟩
    rw[a0J (fun e=>h7 (by rw[h2,e]))];exact h4
  ·have hne:d≠t:=fun e=>hpd j (List.mem_cons_self ..) o ho (by rw[hd,e])
   rw[a0J hne]at ht
   exact h.act t x ht fun i hi=>hpd i (List.mem_cons_of_mem _ hi)
theorem MI.reads {listed:Array Bool}{A:Act}{W:World}{R:Nat→Prop}{pre ms:List (Nat×Bool)}{Pd:List Nat}{E:Env}{H:List HE}(hok:b0f ops (c0P ops.toList []) ord=true)(h:MI P Γ ops Hs K ord listed A W pre ms Pd E H R)
  {i:Nat} {b:Bool} {o:Oper} (ho:ops[i]? =some o) (hdeps: ∀e∈o.after,Region.binds .any e=true→listed.getD e.on false=true) (hi:(i,b)∈pre∧i∈Pd∧b=false∨ ∃r,ms=(i,b)::r):RelA Γ.N R W (rst E (o.looksAt ops)) A:=by
 refine⟨h.defers,h.tmps,fun t v ht=> ?_⟩
 obtain⟨htl,ht⟩:=d0b ht
 refine h.act t v ht fun k hk ok hok' hdk=> ?_
 have hkp:=h.pdp k hk
 have hkf:listed.getD k false=false:=(h.part k (Array.getElem?_eq_some_iff.1 hok').1).2 (.inl hk)
 have direct:e0X ops (c0P ops.toList []) k false i b=true→False:=fun hp=>by
  obtain⟨e,he,hb,hon⟩:=(b0J hp hok' ho).reads t hdk htl
  have:=hdeps e he hb
  rw[hon,hkf]at this;cases this
 rcases hi with⟨hip,hiP,rfl⟩|⟨r,hms⟩
 ·
  obtain⟨p1,p2,hp12⟩:=List.append_of_mem hkp
  have hord:=h.ord
  rw[hp12,List.append_assoc]at hord
  rw[hp12]at hip
  rcases List.mem_append.1 hip with hip|hip
  ·
   have hq:=a0m (pre:=p1) (by rw[←hord];exact hok)
   have:=b0J (hq.2 _ hip (k,false) (List.mem_cons_self ..)) ho hok'
   obtain⟨d',h1,h2, -⟩:=this.flt rfl
   rw[hdk]at h1;cases h1
   exact h2 htl
  ·rcases List.mem_cons.1 hip with he|hip
   ·cases he
    have hq:=(a0m (pre:=p1) (by rw[←hord];exact hok)).1
    rw[cA,b0f]at hq
    simp only[Bool.and_eq_true]at hq
    obtain rfl:o=ok:=by rw[ho]at hok';exact Option.some.inj hok'
    have:=hq.1.1
    rw[ho]at this
    simp only[hdk,Bool.false_or]at this
    simp at this
    exact this htl
   ·rw[show p1++((k,false)::p2++ms)=(p1++[(k,false)])++(p2++ms) by simp]at hord
    have hq:=a0m (pre:=p1++[(k,false)]) (by rw[←hord];exact hok)
    exact direct (hq.2 (k,false) (by simp) (i,false) (List.mem_append_left _ hip))
 ·have hq:=a0m (pre:=pre) (r:=ms) (by rw[←h.ord];exact hok)
  exact direct (hq.2 _ hkp (i,b) (by rw[hms];exact List.mem_cons_self ..))
def b0X (E:Env)(H Hm Hs:List HE):Prop:=H.Perm (Hm++Hs)
theorem a0g {E:Env}{H:List HE}:b0X E H [] H:=List.Perm.refl _
theorem a0s (i:Nat){E:Env}{H Hm Hs:List HE}{e:HE}(h:H[i]? =some e)(hr:b0X E (H.eraseIdx i) Hm Hs):b0X E H (e::Hm) Hs:=(e0s h).trans (List.Perm.cons e hr)
theorem c0S (t i:Nat){E:Env}{H Hm Hs:List HE}{v:Value}{T sz n:Nat}{xs:List AV}(hl:a0r E t=some (.val v))(h:H[i]? =some (.row v T sz n xs))(hr:b0X E (H.eraseIdx i) Hm Hs):b0X E H (.row v T sz n xs::Hm) Hs:=a0s i h hr
theorem a0K (t i:Nat){E:Env}{H Hm Hs:List HE}{b o T room:Nat}{xs:List AV}(hl:a0r E t=some (.val (.pointer (some ⟨b,o,none⟩))))(h:H[i]? =some (.blk b T room xs))(hr:b0X E (H.eraseIdx i) Hm Hs):b0X E H (.blk b T room xs::Hm) Hs:=a0s i h hr
theorem AW.regionM {Q:Exit→Act→World→Prop}{E:Env}{H:List HE}{id:Nat}{l:List Oper}(ord:List (Nat×Bool)){Hm Hs:List HE}(hm:P.follows .mixedOrders=true)(hok:q0T l.toArray ord=true)(hH:b0X E H Hm Hs)
  (h:AM P Γ.N l.toArray Hs (fun E' H'=>AQ Γ Q .normal E' (H'++Hs)) ord E Hm):AW Γ P Q (.region id l.toArray true) E H:=fun R a W hs0 ha0=>by
 obtain⟨ops,hops⟩: ∃ops,ops=l.toArray:=⟨_,rfl⟩
 rw[←hops]at h hok
 simp only[q0T,Bool.and_eq_true,List.all_eq_true,List.mem_range]at hok
 obtain⟨⟨⟨hall,hlt⟩,hbk⟩,hpairs⟩:=hok
 have hback: ∀i o,ops[i]? =some o→ ∀e∈o.after,Region.binds .any e=true→e.on<i:=fun i o ho e he hb=>by
  have hi:i<ops.size:=(Array.getElem?_eq_some_iff.1 ho).1
  have:=hbk i hi
  rw[ho]at this
  simp only[Option.all_some]at this
  have:=Array.all_eq_true_iff_forall_mem.1 this e he
  simpa[hb]using this
 have main: ∀(fuel:Nat) (listed:Array Bool) (A:Act) (W:World) (pre ms:List (Nat×Bool)) (Pd:List Nat) (E:Env) (H:List HE) (R:Nat→Prop),fuel=listed.toList.count false→
   MI P Γ ops Hs (fun E' H'=>AQ Γ Q .normal E' (H'++Hs)) ord listed A W pre ms Pd E H R→(ms= []∨ ∃m r,ms=(m,true)::r)→wpAny P .any ops Q fuel listed A W:=by
  intro fuel
  induction fuel with
  | zero=>
   intro listed A W pre ms Pd E H R hc hI hhd
   have hlist: ∀i,i<ops.size→listed.getD i false=true:=by
    intro i hi
    have hi':i<listed.size:=by rw[hI.size];exact hi
    cases hb:listed.getD i false with
    |true=>rfl
    | false=>
     exfalso
     have hm:false∈listed.toList:=by
      rw[←hb];simp[Array.getD,hi']
     have:=List.count_pos_iff.2 hm
     omega
   have hin: ∀i b,(i,b)∈ord→i<ops.size:=fun i b hib=>by have:=hlt _ hib;simpa using this
   have hms:ms= []:=by
    rcases hhd with h|⟨m,r,h⟩
    ·exact h
    ·have h1:=hin m true (by rw[hI.ord,h];simp)
     have:=(hI.part m h1).2 (.inr (by rw[h];simp))
     rw[hlist m h1]at this;cases this
   have hPd:Pd= []:=by
    rw[List.eq_nil_iff_forall_not_mem]
    intro i hi
    have h1:=hin i false (by rw[hI.ord];exact List.mem_append_left _ (hI.pdp i hi))
    have:=(hI.part i h1).2 (.inl hi)
    rw[hlist i h1]at this;cases this
   subst hms
   subst hPd
   refine⟨?_,hI.am R A W hI.rels ⟨hI.defers,hI.tmps,fun t v ht=>hI.act t v ht fun i hi=>(by cases hi)⟩⟩
   rw[List.eq_nil_iff_forall_not_mem]
   intro i hi
   obtain⟨h0,o,ho,_⟩:=mem_ready.1 hi
   have hi':i<ops.size:=(Array.getElem?_eq_some_iff.1 ho).1
   have:=hlist i hi'
   rw[←b0a (by rw[hI.size];exact hi')]at this
   rw[this]at h0;cases h0
  | succ fuel ih=>
   intro listed A W pre ms Pd E H R hc hI hhd
   have hne: ∃i,i∈Region.ready .any ops listed:=by
    have hex: ∃i,i<ops.size∧listed.getD i false=false:=by
     have hpos:0<listed.toList.count false:=by omega
     obtain⟨i,hi,hf⟩:=List.getElem_of_mem (List.count_pos_iff.1 hpos)
     have hi':i<listed.size:=by simpa using hi
     exact⟨i,by rw[←hI.size];exact hi',by simpa[Array.getD,hi']using hf⟩
    obtain⟨i,⟨hi,hf⟩,hmin⟩: ∃i,(i<ops.size∧listed.getD i false=false)∧ ∀j,j<i→ ¬(j<ops.size∧listed.getD j false=false):=by
     obtain⟨i,h⟩:=hex
     exact m0P ⟨i,h⟩
    have hio:ops[i]? =some ops[i]:=by simp[hi]
    refine⟨i,mem_ready.2 ⟨by rw[b0a (by rw[hI.size];exact hi)];exact hf,_,hio,fun e he hb=> ?_⟩⟩
    have:=hback i _ hio e he hb
    cases hb2:listed.getD e.on false with
    |true=>rfl
    |false=>exact absurd ⟨by omega,hb2⟩ (hmin e.on this)
   refine⟨fun e=>(by obtain⟨i,hi⟩:=hne;rw[e]at hi;cases hi),fun i hi=> ?_⟩
   obtain⟨h0,o,ho,hdeps⟩:=mem_ready.1 hi
   have hio:i<ops.size:=(Array.getElem?_eq_some_iff.1 ho).1
   have hf:listed.getD i false=false:=by rw[←b0a (by rw[hI.size];exact hio)];exact h0
   have hil:i<listed.size:=by rw[hI.size];exact hio
   have hanc: ∀j,j∈(c0P ops.toList []).getD i []→listed.getD j false=true:=fun j hj=>c0M hI.closed hback i o ho hdeps j hj
   have hcl:=c0c hI.closed ho hil hdeps
   have hcnt:fuel=(listed.setIfInBounds i true).toList.count false:=by
    have hcs:=a0T listed.toList i (by simpa using hil) (by simpa[Array.getD,hil]using hf)
    simp only[Array.toList_setIfInBounds]
    omega
   have hgd: ∀k,k≠i→(listed.setIfInBounds i true).getD k false=listed.getD k false:=fun k hk=>getD_set_ne false (Ne.symm hk)
   have hgi:(listed.setIfInBounds i true).getD i false=true:=by simp[Array.getD,hil]
   have hsz:(listed.setIfInBounds i true).size=ops.size:=by simpa using hI.size
   rcases(hI.part i hio).1 hf with hPd|hms
   ·
    obtain⟨o',d,v,ho',hd,hN,hlk,hop⟩:=hI.pend i hPd
    obtain rfl:o=o':=by rw[ho]at ho';exact Option.some.inj ho'
    have hA:=hI.reads hpairs ho hdeps (b:=false) (.inl ⟨hI.pdp i hPd,hPd,rfl⟩)
    have hs:=hop R A W hI.rels.rlt (fun e he=>hI.rels.ok e (List.mem_append_right _ he)) (fun e he b hb=>(hI.rels.own e (List.mem_append_right _ he) b hb).2) hA
    have hnext: ∀u W',(∃v' Hn R',Is v v' Hn∧Post1 R W v' Hn u W' R')→wpAny P .any ops Q fuel (listed.setIfInBounds i true) (A.put o.dst u) W':=by
     rintro u W' ⟨v',Hn,R',⟨rfl,rfl⟩,hp⟩
     have hnm:i∉ms.map Prod.fst:=fun hm=>by
      obtain⟨⟨j,c⟩,hq,hji⟩:=List.mem_map.1 hm
      have hq2:=(a0m (pre:=pre) (r:=ms) (by rw[←hI.ord];exact hpairs)).2 _ (hI.pdp i hPd) _ hq
      simp only at hji
      subst hji
      exact(b0J hq2 ho ho).ne rfl
     refine ih _ _ _ pre ms (Pd.filter (· ≠i)) E H R' hcnt ⟨hsz,hcl,fun k hk=> ?_,hI.ord,fun k hk=>hI.pdp k (List.mem_filter.1 hk).1,hI.am,fun k hk=>hI.pend k (List.mem_filter.1 hk).1,by simpa using hI.rels.step hp,?_,?_,fun t x ht hpd=> ?_⟩ hhd
     ·by_cases hki:k=i
      ·subst hki
       rw[hgi]
       simp[hnm]
      ·rw[hgd k hki,hI.part k hk]
       simp[hki]
     ·rw[hd];exact hI.defers
     ·rw[hd];simp[Act.put,hI.tmps]
     ·rw[hd]
      by_cases hdt:d=t
      ·subst hdt
       rw[hlk]at ht
       cases ht
       rw[a0t (by rw[hI.tmps];exact hN)];exact hp.val
      ·rw[a0d hdt]
       refine(hI.act t x ht fun k hk ok hok hdk=> ?_).mono hp.sub (c0D hp.ext hI.rels.rlt)
       by_cases hki:k=i
       ·subst hki
        rw[ho]at hok
        cases hok
        rw[hd]at hdk
        cases hdk
        exact hdt rfl
       ·exact hpd k (List.mem_filter.2 ⟨hk,by simpa using hki⟩) ok hok hdk
    unfold wpOp
    rw[ho]
    unfold c0N at hs
    show if Region.wanted o (yielded ops A.tmps)=true then _ else _
    split
    ·rename_i hw
     rw[if_pos hw]at hs
     refine .inl (Oper.wp_mono ?_ (a0Z hs))
     rintro A' W' ⟨u,rfl,hp⟩
     exact hnext u W' hp
    ·rename_i hw
     rw[if_neg hw]at hs
     exact hnext _ _ hs
   ·
    rcases hhd with rfl|⟨m,r,rfl⟩
    ·cases hms
    have hmlt:m<ops.size:=by have:=hlt (m,true) (by rw[hI.ord];simp);simpa using this
    have hmf:listed.getD m false=false:=(hI.part m hmlt).2 (.inr (by simp))
    have him:i=m:=by
     rcases List.mem_cons.1 hms with h|h
     ·exact h
     ·exfalso
      obtain⟨⟨j,c⟩,hq,hji⟩:=List.mem_map.1 h
      simp only at hji
      subst hji
      have h9:=(a0m (pre:=pre++[(m,true)]) (r:=r) (by have:=hI.ord;rw[List.append_assoc,List.singleton_append,←this];exact hpairs)).2 (m,true) (by simp) _ hq
      have hom:ops[m]? =some ops[m]:=by simp[hmlt]
      have:=hanc m ((b0J h9 hom ho).main rfl)
      rw[hmf]at this;cases this
    subst him
    obtain⟨o',ho',hAO⟩:=hI.am
    obtain rfl:o=o':=by rw[ho]at ho';exact Option.some.inj ho'
    have hA:=hI.reads hpairs ho hdeps (b:=true) (.inr ⟨r,rfl⟩)
    have hs:=hAO W R R A W ⟨Mods.refl _ _,hI.rels.rlt,fun _ h=>h,fun _ h=> .inl h,fun e he=>hI.rels.ok e (List.mem_append_left _ he),fun e he b hb=>⟨.inr ⟨e,he,hb⟩,(hI.rels.own e (List.mem_append_left _ he) b hb).2⟩,(List.pairwise_append.1 hI.rels.disj).1⟩ hA
    have hnext: ∀u W',QS ⟨W,a0E H,R,Γ.N⟩ o.dst (fun v H'=>AM P Γ.N ops Hs (fun E' H'=>AQ Γ Q .normal E' (H'++Hs)) r (a0q o.dst v E) H') .normal (A.put o.dst u) W'→wpAny P .any ops Q fuel (listed.setIfInBounds i true) (A.put o.dst u) W':=by
     rintro u W' ⟨hdf,v,H',R',ham,hsr,hvr⟩
     obtain⟨hrel,hRW⟩:=RelS.part hI.rels hsr
     have hpd: ∀k∈Pd,∀ok,ops[k]? =some ok→ ∀d,o.dst=some d→d∉ok.looksAt ops∧ok.dst≠some d:=fun k hk ok hok d hd=>by
      have h9:=(a0m (pre:=pre) (r:=(i,true)::r) (by rw[←hI.ord];exact hpairs)).2 _ (hI.pdp k hk) (i,true) (List.mem_cons_self ..)
      have hkf:listed.getD k false=false:=(hI.part k (Array.getElem?_eq_some_iff.1 hok).1).2 (.inl hk)
      have hno:k∉(c0P ops.toList []).getD i []:=fun hm=>by
       have:=hanc k hm
       rw[hkf]at this;cases this
      exact⟨fun hm=>hno ((b0J h9 hok ho).mn rfl d hd (.inl hm)),fun he=>hno ((b0J h9 hok ho).mn rfl d hd (.inr he))⟩
     have hnr:i∉r.map Prod.fst:=fun hm=>by
      obtain⟨⟨j,c⟩,hq,hji⟩:=List.mem_map.1 hm
      have h9:=(a0m (pre:=pre++[(i,true)]) (r:=r) (by have:=hI.ord;rw[List.append_assoc,List.singleton_append,←this];exact hpairs)).2 (i,true) (by simp) _ hq
      simp only at hji
      subst hji
      exact(b0J h9 ho ho).ne rfl
     have hnp:i∉Pd:=fun hk=>by
      have h9:=(a0m (pre:=pre) (r:=(i,true)::r) (by rw[←hI.ord];exact hpairs)).2 _ (hI.pdp i hk) (i,true) (List.mem_cons_self ..)
      exact(b0J h9 ho ho).ne rfl
     have hI':MI P Γ ops Hs (fun E' H'=>AQ Γ Q .normal E' (H'++Hs)) ord (listed.setIfInBounds i true) (A.put o.dst u) W' (pre++[(i,true)]) r Pd (a0q o.dst v E) H' R':=by
      refine⟨hsz,hcl,fun k hk=> ?_,by rw[hI.ord];simp,fun k hk=>List.mem_append_left _ (hI.pdp k hk),ham,fun k hk=> ?_,hrel,hdf,?_,fun t x ht hp=> ?_⟩
      ·by_cases hki:k=i
       ·subst hki
        rw[hgi]
        simp[hnr,hnp]
       ·rw[hgd k hki,hI.part k hk]
        simp[hki]
      ·obtain⟨ok,dk,vk,h1,h2,h3,h4,h5⟩:=hI.pend k hk
       refine⟨ok,dk,vk,h1,h2,h3,?_,?_⟩
       ·cases hd:o.dst with
        |none=>exact h4
        |some d=>rw[a0q,a0J (fun e=>(hpd k hk ok h1 d hd).2 (by rw[h2,e]))];exact h4
       ·cases hd:o.dst with
        |none=>exact h5
        |some d=>rw[a0q,b0e (hpd k hk ok h1 d hd).1];exact h5
      ·cases hd:o.dst<;>simp[Act.put,hI.tmps]
      ·cases hd:o.dst with
       |none=>
        rw[hd]at ht
        exact(hI.act t x ht hp).mono hsr.rsub hRW
       | some d=>
        rw[hd,a0q]at ht
        by_cases hdt:d=t
        ·subst hdt
         rw[b0n]at ht
         cases ht
         have:=hvr d hd
         rwa [hd]at this
        ·rw[a0J hdt]at ht
         rw[a0d hdt]
         exact(hI.act t x ht hp).mono hsr.rsub hRW
     obtain⟨pre',ms',Pd',E',hI2,hh2⟩:=hI'.absorb hpairs
     exact ih _ _ _ pre' ms' Pd' E' H' R' hcnt hI2 hh2
    unfold wpOp
    rw[ho]
    unfold wpList at hs
    show if Region.wanted o (yielded ops A.tmps)=true then _ else _
    split
    ·rename_i hw
     rw[if_pos hw]at hs
     refine .inl ?_
     rcases hs with hs|⟨-,a',w',hl⟩
     ·have hs2:o.wp P A W (wpList P ops (QS ⟨W,a0E H,R,Γ.N⟩ o.dst (fun v H'=>AM P Γ.N ops Hs (fun E' H'=>AQ Γ Q .normal E' (H'++Hs)) r (a0q o.dst v E) H')) []) NoQ:=by
       unfold Oper.wp at hs⊢
       revert hs
       cases(execOp A.eval o).run P W with
       | ok n w'=>
        cases n with
        |enter f args=>
         intro hs
         refine Calls.mono hs ?_
         intro e w'' he
         cases e with
         |returned v=>exact he
         |outgrown=>obtain⟨a',w',hl⟩:=he;exact hl.elim
         |_=>exact he.elim
        |_=>exact fun h=>h
       |halt x w'=>cases x<;>exact fun h=>h
      refine Oper.wp_mono ?_ (a0Z (Oper.wp_put hs2))
      rintro A' W' ⟨hq,hA'⟩
      have hq':QS ⟨W,a0E H,R,Γ.N⟩ o.dst (fun v H'=>AM P Γ.N ops Hs (fun E' H'=>AQ Γ Q .normal E' (H'++Hs)) r (a0q o.dst v E) H') .normal A' W':=hq
      rcases hA' with⟨u,rfl⟩|hnd
      ·exact hnext u W' hq'
      ·exact absurd hq'.1 hnd
     ·exact hl.elim
    ·rename_i hw
     rw[if_neg hw]at hs
     exact hnext _ _ hs
 have hs:RelS Γ R (Hm++Hs) W.drew:=(RelS.perm ⟨hs0.mods.drew,hs0.rlt,hs0.rsub,hs0.rnew,fun e he=>HE.ok_mono (W:=W) (W':=W.drew) (fun _ h=>h) (fun _ _=>rfl) (Nat.le_refl _) (fun _ _=>rfl) (hs0.ok e he),hs0.own,hs0.disj⟩ hH.symm)
 have ha:RelA Γ.N R W.drew E a:=ha0.mono (fun _ h=>h) (fun _ _=>rfl)
 refine wp_region_any hm ?_
 rw[←hops]
 have hI:MI P Γ ops Hs (fun E' H'=>AQ Γ Q .normal E' (H'++Hs)) ord (Array.replicate ops.size false) a W.drew [] ord [] E Hm R:=by
  refine⟨by simp,fun i o hl=> ?_,fun i hi=> ?_,rfl,fun i hi=>(by cases hi),h,fun i hi=>(by cases hi),hs,ha.defers,ha.size,fun t v ht _=>ha.slots t v ht⟩
  ·exfalso
   by_cases h:i<ops.size<;>simp[Array.getD,h]at hl
  ·have:=hall i hi
   simp only[List.contains_eq_mem,cQ]at this
   simp[Array.getD,hi,this]
 obtain⟨pre',ms',Pd',E',hI2,hh2⟩:=hI.absorb hpairs
 exact main _ _ _ _ pre' ms' Pd' E' Hm R (by simp) hI2 hh2
theorem wc {Q:Exit→Act→World→Prop}{E:Env}{H:List HE}{id:Nat}{l:List Oper}{Hm Hs:List HE}(ord:List (Nat×Bool))(h:AM P Γ.N l.toArray Hs (fun E' H'=>AQ Γ Q .normal E' (H'++Hs)) ord E Hm)(hm:P.follows .mixedOrders=true:=by kernel_rfl)(hok:q0T l.toArray ord=true:=by kernel_rfl)(hH:b0X E H Hm Hs:=by exact(by exact a0K 2 3 rfl rfl (by exact a0K 3 2 rfl rfl a0g))):AW Γ P Q (.region id l.toArray true) E H:=AW.regionM ord hm hok hH h
theorem vl {Q:Exit→Act→World→Prop}{E:Env}{H:List HE}{id:Nat}{l:List Oper}{Hm Hs:List HE}(ord:List (Nat×Bool))(h:AM P Γ.N l.toArray Hs (fun E' H'=>AQ Γ Q .normal E' (H'++Hs)) ord E Hm)(hm:P.follows .mixedOrders=true:=by kernel_rfl)(hok:q0T l.toArray ord=true:=by kernel_rfl)(hH:b0X E H Hm Hs:=by exact(a0s 2 rfl (a0s 2 rfl (a0s 2 rfl a0g)))):AW Γ P Q (.region id l.toArray true) E H:=AW.regionM ord hm hok hH h
theorem AM.op {i d:Nat}{r:List (Nat×Bool)}{E:Env}{H:List HE}{o:Oper}{v:AV}(ho:ops[i]? =some o)(h:OpW P N o (rst E (o.looksAt ops)) Hs (Is v))(hw:a0f ops (rst E (o.looksAt ops)) o=some true)(hd:o.dst=some d)(hN:Nat.ble (d+1) N=true)(k:AM P N ops Hs K r ((d,v)::E) H):
  AM P N ops Hs K ((i,false)::r) E H:=⟨o,d,v,ho,hd,lB hN,.run hw h,k⟩
theorem zQ {i d:Nat}{r:List (Nat×Bool)}{E:Env}{H:List HE}{o:Oper}{v:AV}(k:AM P N ops Hs K r ((d,v)::E) H)(ho:ops[i]? =some o:=by exact rfl)(h:OpW P N o (rst E (o.looksAt ops)) Hs (Is v):=by exact(O.loadK rfl rfl mM (by(dsimp only[List.set,cA,cN,List.take,List.drop];done)) (by rfl)))(hw:a0f ops (rst E (o.looksAt ops)) o=some true:=by exact rfl)(hd:o.dst=some d:=by exact rfl)(hN:Nat.ble (d+1) N=true:=by exact rfl):AM P N ops Hs K ((i,false)::r) E H:=AM.op ho h hw hd hN k
theorem yu {i d:Nat}{r:List (Nat×Bool)}{E:Env}{H:List HE}{o:Oper}{v:AV}(k:AM P N ops Hs K r ((d,v)::E) H)(ho:ops[i]? =some o:=by exact rfl)(h:OpW P N o (rst E (o.looksAt ops)) Hs (Is v):=by exact(O.load rfl rfl mM (by rfl)))(hw:a0f ops (rst E (o.looksAt ops)) o=some true:=by exact rfl)(hd:o.dst=some d:=by exact rfl)(hN:Nat.ble (d+1) N=true:=by exact rfl):AM P N ops Hs K ((i,false)::r) E H:=AM.op ho h hw hd hN k
theorem yJ {i d:Nat}{r:List (Nat×Bool)}{E:Env}{H:List HE}{o:Oper}{v:AV}(k:AM P N ops Hs K r ((d,v)::E) H)(ho:ops[i]? =some o:=by exact rfl)(h:OpW P N o (rst E (o.looksAt ops)) Hs (Is v):=by exact(O.loadK rfl rfl (by repeat(exact List.Mem.head _)) (by(dsimp only[List.set,cA,cN,List.take,List.drop];done)) (by rfl)))(hw:a0f ops (rst E (o.looksAt ops)) o=some true:=by exact rfl)(hd:o.dst=some d:=by exact rfl)(hN:Nat.ble (d+1) N=true:=by exact rfl):AM P N ops Hs K ((i,false)::r) E H:=AM.op ho h hw hd hN k
theorem yW {i d:Nat}{r:List (Nat×Bool)}{E:Env}{H:List HE}{o:Oper}{v:AV}(k:AM P N ops Hs K r ((d,v)::E) H)(ho:ops[i]? =some o:=by exact rfl)(h:OpW P N o (rst E (o.looksAt ops)) Hs (Is v):=by exact(O.move rfl rfl))(hw:a0f ops (rst E (o.looksAt ops)) o=some true:=by exact rfl)(hd:o.dst=some d:=by exact rfl)(hN:Nat.ble (d+1) N=true:=by exact rfl):AM P N ops Hs K ((i,false)::r) E H:=AM.op ho h hw hd hN k
theorem y1 {i d:Nat}{r:List (Nat×Bool)}{E:Env}{H:List HE}{o:Oper}{v:AV}(k:AM P N ops Hs K r ((d,v)::E) H)(ho:ops[i]? =some o:=by exact rfl)(h:OpW P N o (rst E (o.looksAt ops)) Hs (Is v):=by exact(O.fieldAddr rfl rfl))(hw:a0f ops (rst E (o.looksAt ops)) o=some true:=by exact rfl)(hd:o.dst=some d:=by exact rfl)(hN:Nat.ble (d+1) N=true:=by exact rfl):AM P N ops Hs K ((i,false)::r) E H:=AM.op ho h hw hd hN k
theorem xk {i d:Nat}{r:List (Nat×Bool)}{E:Env}{H:List HE}{o:Oper}{v:AV}(k:AM P N ops Hs K r ((d,v)::E) H)(ho:ops[i]? =some o:=by exact rfl)(h:OpW P N o (rst E (o.looksAt ops)) Hs (Is v):=by exact(OpW.frz (O.buildSlice rfl rfl rfl (by rfl) (by rfl) (by rfl) (by rfl)) (by(unfold maxLen;omega))))(hw:a0f ops (rst E (o.looksAt ops)) o=some true:=by exact rfl)(hd:o.dst=some d:=by exact rfl)(hN:Nat.ble (d+1) N=true:=by exact rfl):AM P N ops Hs K ((i,false)::r) E H:=AM.op ho h hw hd hN k
theorem xH {i d:Nat}{r:List (Nat×Bool)}{E:Env}{H:List HE}{o:Oper}{v:AV}(k:AM P N ops Hs K r ((d,v)::E) H)(ho:ops[i]? =some o:=by exact rfl)(h:OpW P N o (rst E (o.looksAt ops)) Hs (Is v):=by exact(O.loadK rfl rfl (by repeat(exact List.Mem.head _)) (by(dsimp only[List.set,List.append,cA,cN,a0w,a0v,a0y,a0e,a0A,AV.cells,List.map,List.map_cons,List.map_nil,List.take,List.drop,Nat.zero_add,Nat.add_zero,Nat.reduceAdd,Nat.reduceMul,Nat.zero_mul,Value.cells,List.toList_toArray,a0x,List.replicate,List.flatten,cP];done)) (by rfl)))(hw:a0f ops (rst E (o.looksAt ops)) o=some true:=by exact rfl)(hd:o.dst=some d:=by exact rfl)(hN:Nat.ble (d+1) N=true:=by exact rfl):AM P N ops Hs K ((i,false)::r) E H:=AM.op ho h hw hd hN k
theorem xP {i d:Nat}{r:List (Nat×Bool)}{E:Env}{H:List HE}{o:Oper}{v:AV}(k:AM P N ops Hs K r ((d,v)::E) H)(ho:ops[i]? =some o:=by exact rfl)(h:OpW P N o (rst E (o.looksAt ops)) Hs (Is v):=by exact(O.build rfl rfl rfl (by rfl)))(hw:a0f ops (rst E (o.looksAt ops)) o=some true:=by exact rfl)(hd:o.dst=some d:=by exact rfl)(hN:Nat.ble (d+1) N=true:=by exact rfl):AM P N ops Hs K ((i,false)::r) E H:=AM.op ho h hw hd hN k
theorem wb {i d:Nat}{r:List (Nat×Bool)}{E:Env}{H:List HE}{o:Oper}{v:AV}(k:AM P N ops Hs K r ((d,v)::E) H)(ho:ops[i]? =some o:=by exact rfl)(h:OpW P N o (rst E (o.looksAt ops)) Hs (Is v):=by exact(O.assign rfl rfl))(hw:a0f ops (rst E (o.looksAt ops)) o=some true:=by exact rfl)(hd:o.dst=some d:=by exact rfl)(hN:Nat.ble (d+1) N=true:=by exact rfl):AM P N ops Hs K ((i,false)::r) E H:=AM.op ho h hw hd hN k
theorem wi {i d:Nat}{r:List (Nat×Bool)}{E:Env}{H:List HE}{o:Oper}{v:AV}(k:AM P N ops Hs K r ((d,v)::E) H)(ho:ops[i]? =some o:=by exact rfl)(h:OpW P N o (rst E (o.looksAt ops)) Hs (Is v):=by exact(O.load rfl rfl (by repeat(exact List.Mem.head _)) (by rfl)))(hw:a0f ops (rst E (o.looksAt ops)) o=some true:=by exact rfl)(hd:o.dst=some d:=by exact rfl)(hN:Nat.ble (d+1) N=true:=by exact rfl):AM P N ops Hs K ((i,false)::r) E H:=AM.op ho h hw hd hN k
theorem wP {i d:Nat}{r:List (Nat×Bool)}{E:Env}{H:List HE}{o:Oper}{v:AV}(k:AM P N ops Hs K r ((d,v)::E) H)(ho:ops[i]? =some o:=by exact rfl)(h:OpW P N o (rst E (o.looksAt ops)) Hs (Is v):=by exact(O.sliceV rfl rfl rfl rfl ⟨by omega,by omega,by omega⟩ (by omega)))(hw:a0f ops (rst E (o.looksAt ops)) o=some true:=by exact rfl)(hd:o.dst=some d:=by exact rfl)(hN:Nat.ble (d+1) N=true:=by exact rfl):AM P N ops Hs K ((i,false)::r) E H:=AM.op ho h hw hd hN k
theorem vQ {i d:Nat}{r:List (Nat×Bool)}{E:Env}{H:List HE}{o:Oper}{v:AV}(ho:ops[i]? =some o)(h:OpW P N o (rst E (o.looksAt ops)) Hs (Is v))(k:AM P N ops Hs K r ((d,v)::E) H)(hw:a0f ops (rst E (o.looksAt ops)) o=some true:=by exact rfl)(hd:o.dst=some d:=by exact rfl)(hN:Nat.ble (d+1) N=true:=by exact rfl):AM P N ops Hs K ((i,false)::r) E H:=AM.op ho h hw hd hN k
theorem AM.opG {i d:Nat}{r:List (Nat×Bool)}{E:Env}{H:List HE}{o:Oper}{c:Bool}{v:AV}(ho:ops[i]? =some o)(hw:a0S ops (rst E (o.looksAt ops)) o=some c)(hd:o.dst=some d)(hN:Nat.ble (d+1) N=true)(h:c=true→OpW P N o (rst E (o.looksAt ops)) Hs (Is v))(k:AM P N ops Hs K r ((d,.opt c v)::E) H):
  AM P N ops Hs K ((i,false)::r) E H:=⟨o,d,_,ho,hd,lB hN,.opt hw h,k⟩
theorem AM.no {i d:Nat}{r:List (Nat×Bool)}{E:Env}{H:List HE}{o:Oper}(ho:ops[i]? =some o)(hw:a0f ops (rst E (o.looksAt ops)) o=some false)(hd:o.dst=some d)(hN:Nat.ble (d+1) N=true)(k:AM P N ops Hs K r ((d,.val undef)::E) H):
  AM P N ops Hs K ((i,false)::r) E H:=⟨o,d,_,ho,hd,lB hN,.no hw,k⟩
theorem AM.main {i:Nat}{r:List (Nat×Bool)}{E:Env}{H:List HE}(o:Oper)(ho:ops[i]? =some o)(h: ∀w0 R0,AO ⟨w0,a0E H,R0,N⟩ P ops (QS ⟨w0,a0E H,R0,N⟩ o.dst (fun v H'=>AM P N ops Hs K r (a0q o.dst v E) H')) [o] (rst E (o.looksAt ops)) H):
  AM P N ops Hs K ((i,true)::r) E H:=⟨o,ho,h⟩
theorem xN {i:Nat}{r:List (Nat×Bool)}{E:Env}{H:List HE}(o:Oper)(h: ∀w0 R0,AO ⟨w0,a0E H,R0,N⟩ P ops (QS ⟨w0,a0E H,R0,N⟩ o.dst (fun v H'=>AM P N ops Hs K r (a0q o.dst v E) H')) [o] (rst E (o.looksAt ops)) H)(ho:ops[i]? =some o:=by exact rfl):AM P N ops Hs K ((i,true)::r) E H:=AM.main o ho h
theorem AM.ok {w0:World}{S0 R0:Nat→Prop}{d:Nat}{v:AV}{S:AV→List HE→Prop}{E1:Env}{H':List HE}(h:S v H'):AO ⟨w0,S0,R0,N⟩ P ops (QS ⟨w0,S0,R0,N⟩ (some d) S) [] ((d,v)::E1) H':=fun R a W hs ha=>
 ⟨ha.defers,v,H',R,h,hs,fun t ht=>by cases ht;exact ha.slots d v b0n⟩
theorem AM.okN {w0:World}{S0 R0:Nat→Prop}{S:AV→List HE→Prop}{E1:Env}{H':List HE}(h:S (.val undef) H'):AO ⟨w0,S0,R0,N⟩ P ops (QS ⟨w0,S0,R0,N⟩ none S) [] E1 H':=fun R a W hs ha=>
 ⟨ha.defers,_,H',R,h,hs,fun t ht=>by cases ht⟩
theorem vI {w0:World}{S0 R0:Nat→Prop}{S:AV→List HE→Prop}{E1:Env}{H':List HE}(h:S (.val undef) H'):AO ⟨w0,S0,R0,N⟩ P ops (QS ⟨w0,S0,R0,N⟩ none S) [] E1 H':=AM.okN h
theorem AM.nil {E:Env}{H:List HE}(h:K E H):AM P N ops Hs K [] E H:=h
theorem vd {E:Env}{H:List HE}(h:K E H):AM P N ops Hs K [] E H:=AM.nil h
end
theorem f0R (n:Int)(h0:0≤n)(h1:n<2^63):IntKind.i64.wrap n=n:=by rw[IntKind.wrap_i64];omega
section
variable {x y q m:Int}
theorem k0X (i:Nat)(hi:i≤8)(hq:q=2^i-1)(hm:m=2^i)(h:0≤x∧x≤255):Go.bits .and .u8 x q=x%m:=by
 subst hq;subst hm;exact bits_mask .u8 8 (by decide) wraps_u8 i hi x h.1 (by omega)
theorem v0U (i:Nat)(hi:i≤63)(hq:q=2^i-1)(hm:m=2^i)(h:0≤x∧x≤9223372036854775807):Go.bits .and .i64 x q=x%m:=by
 subst hq;subst hm;exact bits_mask .i64 63 (by decide) f0R i hi x h.1 (by omega)
theorem s0r (i:Nat)(hi:i≤64)(hq:q=2^i-1)(hm:m=2^i)(h:0≤x∧x≤18446744073709551615):Go.bits .and .u64 x q=x%m:=by
 subst hq;subst hm;exact bits_mask .u64 64 (by decide) wraps_u64 i hi x h.1 (by omega)
theorem x0o (i:Nat)(hm:m=2^i)(hx:0≤x∧x≤255∧x%m=0)(hy:0≤y∧y<m∧y≤255):Go.bits .or .u8 x y=x+y:=by
 subst hm;exact bits_join .u8 8 (by decide) wraps_u8 i x y hx.1 hx.2.2 (by omega) hy.1 hy.2.1 (by omega)
theorem o0L (i:Nat)(hm:m=2^i)(hx:0≤x∧x≤9223372036854775807∧x%m=0)(hy:0≤y∧y<m∧y≤9223372036854775807):Go.bits .or .i64 x y=x+y:=by
 subst hm;exact bits_join .i64 63 (by decide) f0R i x y hx.1 hx.2.2 (by omega) hy.1 hy.2.1 (by omega)
theorem t0x (i:Nat)(hm:m=2^i)(hx:0≤x∧x<m∧x≤255)(hy:0≤y∧y≤255∧y%m=0):Go.bits .or .u8 x y=x+y:=by
 subst hm;exact bits_join_low .u8 8 (by decide) wraps_u8 i x y hx.1 hx.2.1 (by omega) hy.1 hy.2.2 (by omega)
theorem m0g {a c:Nat}(ha:a<256)(hc:c<256):Go.bits .and .u8 (a:Int) (c:Int)=((a&&&c:Nat):Int):=(bits_nat .u8 8 (by decide) wraps_u8 a c ha hc).1
theorem k0Y {a c:Nat}(ha:a<9223372036854775808)(hc:c<9223372036854775808):Go.bits .and .i64 (a:Int) (c:Int)=((a&&&c:Nat):Int):=(bits_nat .i64 63 (by decide) f0R a c ha hc).1
theorem u0G {a b:UInt8}:Go.bits .xor .u8 (a.toNat:Int) (b.toNat:Int)=((a^^^b).toNat:Int):=by
 have h:(a.toNat^^^b.toNat)<2^8:=Nat.xor_lt_two_pow a.toNat_lt b.toNat_lt
 have e:(BitVec.ofInt 8 (a.toNat:Int)^^^BitVec.ofInt 8 (b.toNat:Int)).toNat=(a^^^b).toNat:=by
  rw[BitVec.toNat_xor,BitVec.ofInt_natCast,BitVec.ofInt_natCast,BitVec.toNat_ofNat,BitVec.toNat_ofNat,Nat.mod_eq_of_lt a.toNat_lt,Nat.mod_eq_of_lt b.toNat_lt,UInt8.toNat_xor]
 show IntKind.u8.wrap ((BitVec.ofInt 8 (a.toNat:Int)^^^BitVec.ofInt 8 (b.toNat:Int)).toNat:Int)=_
 rw[e]
 have:=(a^^^b).toNat_lt
 exact wraps_u8 _ (by omega) (by omega)
end
section
variable {Γ:Cx}{P:Program}{E:Env}{H:List HE}{N:Nat}{o:Oper}
theorem O.shrK (j:Nat)(m:Int){T T':Nat}{x y:Operand}{k k':IntKind}{p q:Int}(ho:o.op= .binOp .shr T x y T')(hx:ev E x=some (.val (.int k p)))(hy:ev E y=some (.val (.int k' q)))(hq:q=(j:Int))(hm:(2:Int)^ (min j k.bits)=m):
  OpW P N o E H (Is (.val (.int k (p/m)))):=O.shr ho hx hy (by omega) (by
   subst hq;subst hm
   rw[Int.toNat_natCast,Int.fdiv_eq_ediv_of_nonneg]
   exact Int.le_of_lt (Int.pow_pos (by decide)))
theorem wC {T T':Nat}{x y:Operand}{k k':IntKind}{p q:Int}(j:Nat)(m:Int)(ho:o.op= .binOp .shr T x y T':=by exact rfl)(hx:ev E x=some (.val (.int k p)):=by exact rfl)(hy:ev E y=some (.val (.int k' q)):=by exact rfl)(hq:q=(j:Int):=by exact rfl)(hm:(2:Int)^ (min j k.bits)=m:=by rfl):OpW P N o E H (Is (.val (.int k (p/m)))):=O.shrK j m ho hx hy hq hm
theorem O.shlK (j:Nat)(m:Int){T T':Nat}{x y:Operand}{k k':IntKind}{p q c:Int}(ho:o.op= .binOp .shl T x y T')(hx:ev E x=some (.val (.int k p)))(hy:ev E y=some (.val (.int k' q)))(hq:q=(j:Int))(hm:(2:Int)^ (min j k.bits)=m)(hc:k.wrap (p*m)=c):
  OpW P N o E H (Is (.val (.int k c))):=O.shl ho hx hy (by omega) (by
   subst hq;subst hm
   rw[Int.toNat_natCast];exact hc)
end
section
variable {Γ:Cx}{P:Program}{Q:Exit→Act→World→Prop}{E:Env}{H:List HE}
def Mid (Γ:Cx)(Q:Exit→Act→World→Prop)(φ:Prop)(E1:Env)(H1:List HE):Exit→Act→World→Prop:=Exit.then (fun a W=>φ∧ ∃R,RelS Γ R H1 W∧RelA Γ.N R W E1 a) Q
theorem r0Q {c:Code}{a:Act}{W:World}{φ:Prop}{E1:Env}{H1:List HE}(h:c.wp P (Mid Γ Q φ E1 H1) a W)(k:φ→AQ Γ Q .normal E1 H1):c.wp P Q a W:=by
 refine wp_mono h ?_
 intro x a W hx
 cases x with
 |normal=>obtain⟨hφ,R,h1,h2⟩:=hx;exact k hφ R a W h1 h2
 |_=>exact hx
theorem AQ.midR {φ:Prop}{E1:Env}{H1:List HE}(h:AQ Γ Q .ret E H):AQ Γ (Mid Γ Q φ E1 H1) .ret E H:=h
theorem AW.joinK {t:Nat}{b:Bool}{x y:Code}(φ:Prop)(K E1:Env)(H1:List HE)(ht:a0r E t=some (.val (.bool b)))(hK: ∀p∈K,a0r E p.1=some p.2)(h1:b=true→AW Γ P (Mid Γ Q φ (E1++K) H1) x E H)(h2:b=false→AW Γ P (Mid Γ Q φ (E1++K) H1) y E H)(k:φ→AQ Γ Q .normal (E1++K) H1):
  AW Γ P Q (.cond (.tmp t) x y) E H:=AW.cond b ht (fun hb R a W hs ha=>r0Q (h1 hb R a W hs ha) k) (fun hb R a W hs ha=>r0Q (h2 hb R a W hs ha) k)
theorem xR {t:Nat}{b:Bool}{x y:Code}(φ:Prop)(K:Env)(E1:Env)(H1:List HE)(h1:b=true→AW Γ P (Mid Γ Q φ (E1++K) H1) x E H)(h2:b=false→AW Γ P (Mid Γ Q φ (E1++K) H1) y E H)(k:φ→AQ Γ Q .normal (E1++K) H1)(ht:a0r E t=some (.val (.bool b)):=by exact rfl)(hK: ∀p∈K,a0r E p.1=some p.2:=by repeat(first|exact a0l|refine a0j rfl ?_)):AW Γ P Q (.cond (.tmp t) x y) E H:=AW.joinK φ K E1 H1 ht hK h1 h2 k
theorem AQ.midK {φ:Prop}{K E1:Env}{H1:List HE}(hφ:φ)(hK: ∀p∈K,a0r E p.1=some p.2)(hE: ∀p∈E1,a0r E p.1=some p.2)(hH: ∃H2,H2.Sublist H∧H1.Perm H2):AQ Γ (Mid Γ Q φ (E1++K) H1) .normal E H:=fun R a W hs ha=>by
 obtain⟨H2,h1,h2⟩:=hH
 have hmem: ∀{E:Env} {t:Nat} {v:AV},a0r E t=some v→(t,v)∈E:=by
  intro E
  induction E with
  |nil=>intro t v h;cases h
  |cons p r ih=>
   intro t v h
   unfold a0r at h
   cases hb:Nat.beq p.1 t with
   |true=>rw[hb]at h;simp at h;subst h;have:=Nat.eq_of_beq_eq_true hb;subst this;exact List.mem_cons_self ..
   |false=>rw[hb]at h;exact List.mem_cons_of_mem _ (ih h)
 exact⟨hφ,R,(hs.sub h1).perm h2,ha.defers,ha.size,fun t v ht=>ha.slots t v (i0u hE hK _ (hmem ht))⟩
theorem yl {φ:Prop}{K E1:Env}{H1:List HE}(hφ:φ:=by exact(trivial))(hK: ∀p∈K,a0r E p.1=some p.2:=by repeat(first|exact a0l|refine a0j rfl ?_))(hE: ∀p∈E1,a0r E p.1=some p.2:=by repeat(first|exact a0l|refine a0j rfl ?_))(hH: ∃H2,H2.Sublist H∧H1.Perm H2:=by repeat(first|exact a0H|refine a0B 0 rfl ?_)):AQ Γ (Mid Γ Q φ (E1++K) H1) .normal E H:=AQ.midK hφ hK hE hH
theorem wE {φ:Prop}{K E1:Env}{H1:List HE}(hφ:φ)(hK: ∀p∈K,a0r E p.1=some p.2:=by repeat(first|exact a0l|refine a0j rfl ?_))(hE: ∀p∈E1,a0r E p.1=some p.2:=by repeat(first|exact a0l|refine a0j rfl ?_))(hH: ∃H2,H2.Sublist H∧H1.Perm H2:=by repeat(first|exact a0H|refine a0B 0 rfl ?_)):AQ Γ (Mid Γ Q φ (E1++K) H1) .normal E H:=AQ.midK hφ hK hE hH
theorem wU {φ:Prop}{K E1:Env}{H1:List HE}(hφ:φ:=by exact(trivial))(hK: ∀p∈K,a0r E p.1=some p.2:=by repeat(first|exact a0l|refine a0j rfl ?_))(hE: ∀p∈E1,a0r E p.1=some p.2:=by repeat(exact a0l))(hH: ∃H2,H2.Sublist H∧H1.Perm H2:=by repeat(first|exact a0H|refine a0B 0 rfl ?_)):AQ Γ (Mid Γ Q φ (E1++K) H1) .normal E H:=AQ.midK hφ hK hE hH
theorem AQ.midK0 {φ:Prop}{E1:Env}{H1:List HE}(hφ:φ)(hE: ∀p∈E1,a0r E p.1=some p.2)(hH: ∃H2,H2.Sublist H∧H1.Perm H2):AQ Γ (Mid Γ Q φ E1 H1) .normal E H:=
 AQ.midK (K:=E1) (E1:= []) hφ hE (fun p hp=>absurd hp (by simp)) hH
theorem vc {φ:Prop}{E1:Env}{H1:List HE}(hφ:φ:=by exact(trivial))(hE: ∀p∈E1,a0r E p.1=some p.2:=by repeat(first|exact a0l|refine a0j rfl ?_))(hH: ∃H2,H2.Sublist H∧H1.Perm H2:=by repeat(first|exact a0H|refine a0B 0 rfl ?_)):AQ Γ (Mid Γ Q φ E1 H1) .normal E H:=AQ.midK0 hφ hE hH
def p0Z (Γ:Cx)(Q:Exit→Act→World→Prop)(K:Env)(I:Env→List HE→Prop):Exit→Act→World→Prop:=Exit.then (fun a W=> ∃E1 H1 R,I E1 H1∧RelS Γ R H1 W∧RelA Γ.N R W (E1++K) a) Q
theorem n0x {c:Code}{a:Act}{W:World}{K:Env}{I:Env→List HE→Prop}(h:c.wp P (p0Z Γ Q K I) a W)(k: ∀E1 H1,I E1 H1→AQ Γ Q .normal (E1++K) H1):c.wp P Q a W:=by
 refine wp_mono h ?_
 intro x a W hx
 cases x with
 |normal=>obtain⟨E1,H1,R,hI,h1,h2⟩:=hx;exact k E1 H1 hI R a W h1 h2
 |_=>exact hx
theorem AW.joinI {t:Nat}{b:Bool}{x y:Code}(K:Env)(I:Env→List HE→Prop)(ht:a0r E t=some (.val (.bool b)))(hK: ∀p∈K,a0r E p.1=some p.2)(h1:b=true→AW Γ P (p0Z Γ Q K I) x E H)(h2:b=false→AW Γ P (p0Z Γ Q K I) y E H)(k: ∀E1 H1,I E1 H1→AQ Γ Q .normal (E1++K) H1):
  AW Γ P Q (.cond (.tmp t) x y) E H:=AW.cond b ht (fun hb R a W hs ha=>n0x (h1 hb R a W hs ha) k) (fun hb R a W hs ha=>n0x (h2 hb R a W hs ha) k)
theorem xY {t:Nat}{b:Bool}{x y:Code}(K:Env)(I:Env→List HE→Prop)(h1:b=true→AW Γ P (p0Z Γ Q K I) x E H)(h2:b=false→AW Γ P (p0Z Γ Q K I) y E H)(k: ∀E1 H1,I E1 H1→AQ Γ Q .normal (E1++K) H1)(ht:a0r E t=some (.val (.bool b)):=by exact rfl)(hK: ∀p∈K,a0r E p.1=some p.2:=by repeat(first|exact a0l|refine a0j rfl ?_)):AW Γ P Q (.cond (.tmp t) x y) E H:=AW.joinI K I ht hK h1 h2 k
theorem vh {t:Nat}{b:Bool}{x y:Code}(K:Env)(I:Env→List HE→Prop)(h1:b=true→AW Γ P (p0Z Γ Q K I) x E H)(h2:b=false→AW Γ P (p0Z Γ Q K I) y E H)(k: ∀E1 H1,I E1 H1→AQ Γ Q .normal (E1++K) H1)(ht:a0r E t=some (.val (.bool b)):=by exact rfl)(hK: ∀p∈K,a0r E p.1=some p.2:=by repeat(exact a0l)):AW Γ P Q (.cond (.tmp t) x y) E H:=AW.joinI K I ht hK h1 h2 k
theorem AQ.midI {K:Env}{I:Env→List HE→Prop}(E1:Env)(H1:List HE)(hI:I E1 H1)(hK: ∀p∈K,a0r E p.1=some p.2)(hE: ∀p∈E1,a0r E p.1=some p.2)(hH: ∃H2,H2.Sublist H∧H1.Perm H2):AQ Γ (p0Z Γ Q K I) .normal E H:=fun R a W hs ha=>by
 obtain⟨H2,h1,h2⟩:=hH
 have hmem: ∀{E:Env} {t:Nat} {v:AV},a0r E t=some v→(t,v)∈E:=by
  intro E
  induction E with
  |nil=>intro t v h;cases h
  |cons p r ih=>
   intro t v h
   unfold a0r at h
   cases hb:Nat.beq p.1 t with
   |true=>rw[hb]at h;simp at h;subst h;have:=Nat.eq_of_beq_eq_true hb;subst this;exact List.mem_cons_self ..
   |false=>rw[hb]at h;exact List.mem_cons_of_mem _ (ih h)
 exact⟨E1,H1,R,hI,(hs.sub h1).perm h2,ha.defers,ha.size,fun t v ht=>ha.slots t v (i0u hE hK _ (hmem ht))⟩
theorem yc {K:Env}{I:Env→List HE→Prop}(E1:Env)(H1:List HE)(hI:I E1 H1)(hK: ∀p∈K,a0r E p.1=some p.2:=by repeat(exact a0l))(hE: ∀p∈E1,a0r E p.1=some p.2:=by repeat(first|exact a0l|refine a0j rfl ?_))(hH: ∃H2,H2.Sublist H∧H1.Perm H2:=by repeat(exact a0H)):AQ Γ (p0Z Γ Q K I) .normal E H:=AQ.midI E1 H1 hI hK hE hH
theorem yE {K:Env}{I:Env→List HE→Prop}(E1:Env)(H1:List HE)(hI:I E1 H1)(hK: ∀p∈K,a0r E p.1=some p.2:=by repeat(first|exact a0l|refine a0j rfl ?_))(hE: ∀p∈E1,a0r E p.1=some p.2:=by repeat(first|exact a0l|refine a0j rfl ?_))(hH: ∃H2,H2.Sublist H∧H1.Perm H2:=by repeat(exact a0H)):AQ Γ (p0Z Γ Q K I) .normal E H:=AQ.midI E1 H1 hI hK hE hH
theorem xw {K:Env}{I:Env→List HE→Prop}(E1:Env)(H1:List HE)(hI:I E1 H1)(hK: ∀p∈K,a0r E p.1=some p.2:=by repeat(first|exact a0l|refine a0j rfl ?_))(hE: ∀p∈E1,a0r E p.1=some p.2:=by repeat(exact a0l))(hH: ∃H2,H2.Sublist H∧H1.Perm H2:=by repeat(first|exact a0H|refine a0B 0 rfl ?_)):AQ Γ (p0Z Γ Q K I) .normal E H:=AQ.midI E1 H1 hI hK hE hH
theorem FnQ.coe {Γ:Cx}{P:Program}{fn:Func}{Post:AV→List HE→Prop}{E:Env}{H:List HE}{r r':AV}{H':List HE}(h:AQ Γ (FnQ Γ P fn (fun q K=>q=r∧K=H')) .ret E H)(hc:Coe r r')(hp:Post r' H'):AQ Γ (FnQ Γ P fn Post) .ret E H:=fun R a W hs ha=>by
 have:=h R a W hs ha
 unfold FnQ at this⊢
 obtain⟨hd,v,hv,u,q,K,R',he,⟨rfl,rfl⟩,h1,h2⟩:=this
 exact⟨hd,v,hv,u,_,_,R',he,hp,h1,hc R' W u h2⟩
theorem wa {Γ:Cx}{P:Program}{fn:Func}{Post:AV→List HE→Prop}{E:Env}{H:List HE}{r r':AV}{H':List HE}(h:AQ Γ (FnQ Γ P fn (fun q K=>q=r∧K=H')) .ret E H)(hc:Coe r r')(hp:Post r' H'):AQ Γ (FnQ Γ P fn Post) .ret E H:=FnQ.coe h hc hp
theorem Coe.tup {x y:List AV}(h:CoeL x y):Coe (.tup x) (.tup y):=fun R W u hu=>by
 obtain⟨us,rfl,h1⟩:=hu.tup_inv
 exact(h R W us h1).toTup
theorem zl {x y:List AV}(h:CoeL x y:=by(repeat(first|exact CoeL.nil|refine CoeL.cons Coe.rfl ?_|refine CoeL.cons Coe.nil ?_|refine CoeL.cons (Coe.agg ?_) ?_));done):Coe (.tup x) (.tup y):=Coe.tup h
theorem yv {x y:List AV}(h:CoeL x y:=by(repeat(first|exact CoeL.nil|refine CoeL.cons Coe.rfl ?_|refine CoeL.cons Coe.nil ?_));done):Coe (.tup x) (.tup y):=Coe.tup h
theorem yR {x y:List AV}(h:CoeL x y:=by(repeat(first|exact CoeL.nil|refine CoeL.cons Coe.rfl ?_));done):Coe (.tup x) (.tup y):=Coe.tup h
end
end Go.Proofs.YtojomcdjcpmnkaaGreat.A
namespace Go.Proofs.YtojomcdjcpmnkaaGreat.Dk
open Go.RowKit L A
attribute [local irreducible] AW AQ AO
theorem mod_fn (v n:Int)(h1:0<n)(h2:n≤4611686018427387904):Sp Tryz.prog 82 [.val (.int .i64 v),.val (.int .i64 n)] [] (Is (.val (.int .i64 (v%n)))):=by
 have hf:=n0J v n h1
 have hlt:v.tmod n<n:=Int.tmod_lt_of_pos v h1
 have hge: -n<v.tmod n:=by
  rcases Int.le_total 0 v with hv|hv
  ·have:=Int.tmod_nonneg n hv;omega
  ·have:=Int.lt_tmod_of_pos v h1;omega
 refine Sp.enter Tryz.func82 rfl _ Tryz.ntmps82 rfl (fun w0 R0=> ?_)
 refine AW.seq ?_
 refine AW.region ?_
 refine AO.op (O.assign rfl rfl) rfl rfl rfl ?_
 refine AO.nil ?_
 refine AQ.thenN ?_
 refine AW.seq ?_
 refine AW.region ?_
 refine AO.op (O.move rfl rfl) rfl rfl rfl ?_
 refine AO.op (O.move rfl rfl) rfl rfl rfl ?_
 refine AO.op (O.rem rfl rfl rfl (by omega) rfl) rfl rfl rfl ?_
 refine AO.op (O.assign rfl rfl) rfl rfl rfl ?_
 refine AO.nil ?_
 refine AQ.thenN ?_
 refine AW.seq ?_
 refine AW.seq ?_
 refine AW.region ?_
 refine AO.op (O.move rfl rfl) rfl rfl rfl ?_
 refine AO.op (O.lss rfl rfl rfl (by rfl)) rfl rfl rfl ?_
 refine AO.nil ?_
 refine AQ.thenN ?_
 refine AW.split rfl (fun h=> ?_) (fun h=> ?_)
 ·have h:v.tmod n<0:=of_decide_eq_true h
  rw[if_pos h]at hf
  refine AW.region ?_
  refine AO.op (O.move rfl rfl) rfl rfl rfl ?_
  refine AO.op (O.move rfl rfl) rfl rfl rfl ?_
  refine AO.op (O.add rfl rfl rfl (by exact e0J (by omega))) rfl rfl rfl ?_
  refine AO.op (O.assign rfl rfl) rfl rfl rfl ?_
  refine AO.nil ?_
  refine AQ.thenN ?_
  refine AW.seq ?_
  refine AW.region ?_
  refine AO.op (O.move rfl rfl) rfl rfl rfl ?_
  refine AO.op (O.assign rfl rfl) rfl rfl rfl ?_
  refine AO.nil ?_
  refine AQ.thenN ?_
  refine AW.ret ?_
  refine AQ.ret1 rfl rfl nS (⟨by rw[hf],rfl⟩)
 ·have h: ¬v.tmod n<0:=of_decide_eq_false h
  rw[if_neg h]at hf
  refine AW.skip ?_
  refine AQ.thenN ?_
  refine AW.seq ?_
  refine AW.region ?_
  refine AO.op (O.move rfl rfl) rfl rfl rfl ?_
  refine AO.op (O.assign rfl rfl) rfl rfl rfl ?_
  refine AO.nil ?_
  refine AQ.thenN ?_
  refine AW.ret ?_
  refine AQ.ret1 rfl rfl nS (⟨by rw[hf],rfl⟩)
abbrev g0Y (b:Nat)(l:List Int)(k:Nat):HE:= .blk b 101 2 [roI l,.val (.int .i64 (k:Int))]
abbrev ptr (b:Nat):AV:= .val (.pointer (some ⟨b,0,none⟩))
def nxt (l:List Int)(k:Nat)(n:Int):Int:=if k<l.length then l.getD k 0%n else 0
def adv (l:List Int)(k:Nat):Nat:=if k<l.length then k+1 else k
theorem e0a (l:List Int)(k:Nat){n:Int}(h:0<n):0≤nxt l k n∧nxt l k n<n:=by
 unfold nxt
 split
 ·exact⟨Int.emod_nonneg _ (by omega),Int.emod_lt_of_pos _ h⟩
 ·omega
theorem v0X {l:List Int}{k m:Nat}(h:k≤m)(hm:l.length≤m):adv l k≤m:=by unfold adv;split<;>omega
theorem d0f {l:List Int}{k:Nat}(h:k≤l.length):adv l k≤l.length:=v0X h (Nat.le_refl _)
theorem v0p (l:List Int):Sp Tryz.prog 11 [roI l] [] (b0j (fun b=> .val (.pointer (some ⟨b,0,none⟩))) 101 2 [roI l,.val (.int .i64 0)]):=by
 refine Sp.enter Tryz.func11 rfl _ Tryz.ntmps11 rfl (fun w0 R0=> ?_)
 refine AW.seq ?_
 refine AW.region ?_
 refine AO.op (O.assign rfl rfl) rfl rfl rfl ?_
 refine AO.nil ?_
 refine AQ.thenN ?_
 refine AW.seq ?_
 refine AW.region ?_
 refine AO.op (O.move rfl rfl) rfl rfl rfl ?_
 refine AO.op (O.build rfl rfl rfl (by rfl)) rfl rfl rfl ?_
 refine AO.opB (O.box rfl rfl rfl rfl rfl) rfl rfl rfl ?_
 intro B
 refine AO.op (O.assign rfl rfl) rfl rfl rfl ?_
 refine AO.nil ?_
 refine AQ.thenN ?_
 refine AW.ret ?_
 refine AQ.ret1 rfl rfl ⟨_,by repeat(first|exact List.Sublist.slnil|refine List.Sublist.cons_cons _ ?_),List.Perm.refl _⟩ (⟨B,rfl,rfl⟩)
theorem u0Y {l:List Int}{k:Nat}(h:k<l.length){j:Nat}(hj:j=k):(d0S .i64 l)[j]? =some (.val (.int .i64 (l.getD k 0))):=by
 subst hj;simp[d0S,h]
theorem g0o (b:Nat)(l:List Int)(k:Nat)(n:Int)(hl:l.length≤maxLen)(hk:k≤l.length)(hn1:0<n)(hn2:n≤4611686018427387904):
  Sp Tryz.prog 33 [ptr b,.val (.int .i64 n)] [g0Y b l k] (IsM (.val (.int .i64 (nxt l k n))) (g0Y b l (adv l k))):=by
 unfold maxLen at hl
 refine Sp.enter Tryz.func33 rfl _ Tryz.ntmps33 rfl (fun w0 R0=> ?_)
 refine AW.seq ?_
 refine AW.region ?_
 refine AO.op (O.assign rfl rfl) rfl rfl rfl ?_
 refine AO.nil ?_
 refine AQ.thenN ?_
 refine AW.seq ?_
 refine AW.seq ?_
 refine AW.regionD 10 (by kernel_rfl) (by kernel_rfl) ?_
 simp only[cT,cZ,cD,cO]
 refine FA.op (O.move rfl rfl) rfl rfl rfl rfl ?_
 refine FA.op (O.nilCheck rfl rfl) rfl rfl rfl rfl ?_
 refine FA.op (O.fieldAddr rfl rfl) rfl rfl rfl rfl ?_
 refine FA.op (O.load rfl rfl (by repeat(exact List.Mem.head _)) (by rfl)) rfl rfl rfl rfl ?_
 refine FA.op (O.move rfl rfl) rfl rfl rfl rfl ?_
 refine FA.op (O.nilCheck rfl rfl) rfl rfl rfl rfl ?_
 refine FA.op (O.fieldAddr rfl rfl) rfl rfl rfl rfl ?_
 refine FA.op (O.load rfl rfl (by repeat(exact List.Mem.head _)) (by rfl)) rfl rfl rfl rfl ?_
 refine FA.op (O.lenR rfl rfl) rfl rfl rfl rfl ?_
 refine FA.op (O.geq rfl rfl rfl (by rfl)) rfl rfl rfl rfl ?_
 refine FA.nil ?_
 simp only[a0h,cN,cA,cP]
 refine AO.nil ?_
 refine AQ.thenN ?_
 refine AW.split rfl (fun h=> ?_) (fun h=> ?_)
 ·have h: ¬k<l.length:=by have:=of_decide_eq_true h;omega
  refine AW.seq ?_
  refine AW.region ?_
  refine AO.op (O.assign rfl rfl) rfl rfl rfl ?_
  refine AO.nil ?_
  refine AQ.thenN ?_
  refine AW.ret ?_
  refine AQ.thenR ?_
  have e1:nxt l k n=0:=by simp only[nxt,if_neg h]
  have e2:adv l k=k:=by simp only[adv,if_neg h]
  refine AQ.ret1 rfl rfl ⟨_,by repeat(first|exact List.Sublist.slnil|refine List.Sublist.cons_cons _ ?_),List.Perm.refl _⟩ (⟨congrArg (fun z=>AV.val (.int .i64 z)) e1.symm,congrArg (fun z=> [g0Y b l z]) e2.symm⟩)
 ·have h:k<l.length:=by have:=of_decide_eq_false h;omega
  refine AW.skip ?_
  refine AQ.thenN ?_
  refine AW.seq ?_
  refine AW.region ?_
  refine AO.op (O.move rfl rfl) rfl rfl rfl ?_
  refine AO.op (O.nilCheck rfl rfl) rfl rfl rfl ?_
  refine AO.op (O.fieldAddr rfl rfl) rfl rfl rfl ?_
  refine AO.op (O.load rfl rfl (by repeat(exact List.Mem.head _)) (by rfl)) rfl rfl rfl ?_
  refine AO.op (O.add rfl rfl rfl (by exact e0J (by omega))) rfl rfl rfl ?_
  refine AO.op (O.nilCheck rfl rfl) rfl rfl rfl ?_
  refine AO.op (O.fieldAddr rfl rfl) rfl rfl rfl ?_
  (refine AO.store (i:=0) rfl rfl rfl rfl rfl rfl (by rfl) (by rfl) (by rfl) (by(dsimp only[List.set,List.append,cA,cN,a0e,a0A,AV.cells,List.map,List.map_cons,List.map_nil,List.take,List.drop,Nat.zero_add,Nat.add_zero,Nat.reduceAdd,Nat.reduceMul,Nat.zero_mul,Value.cells,List.toList_toArray,a0x,List.replicate,List.flatten,cP];done)) (by(dsimp only[List.set,List.append,cA,cN,a0e,a0A,AV.cells,List.map,List.map_cons,List.map_nil,List.take,List.drop,Nat.zero_add,Nat.add_zero,Nat.reduceAdd,Nat.reduceMul,Nat.zero_mul,Value.cells,List.toList_toArray,a0x,List.replicate,List.flatten,cP];done)) ?_)
  refine AO.nil ?_
  refine AQ.thenN ?_
  refine AW.seq ?_
  refine AW.regionD 14 (by kernel_rfl) (by kernel_rfl) ?_
  simp only[cT,cZ,cD,cO]
  refine FA.op (O.move rfl rfl) rfl rfl rfl rfl ?_
  refine FA.op (O.nilCheck rfl rfl) rfl rfl rfl rfl ?_
  refine FA.op (O.fieldAddr rfl rfl) rfl rfl rfl rfl ?_
  refine FA.op (O.load rfl rfl (by repeat(exact List.Mem.head _)) (by rfl)) rfl rfl rfl rfl ?_
  refine FA.op (O.move rfl rfl) rfl rfl rfl rfl ?_
  refine FA.op (O.nilCheck rfl rfl) rfl rfl rfl rfl ?_
  refine FA.op (O.fieldAddr rfl rfl) rfl rfl rfl rfl ?_
  refine FA.op (O.load rfl rfl (by repeat(exact List.Mem.head _)) (by rfl)) rfl rfl rfl rfl ?_
  refine FA.op (O.sub rfl rfl rfl (by exact e0J (by omega))) rfl rfl rfl rfl ?_
  refine FA.op (O.idxR rfl rfl rfl ⟨(by omega),(by omega)⟩) rfl rfl rfl rfl ?_
  refine FA.op (O.loadR rfl rfl (by exact u0Y (by assumption) (by omega))) rfl rfl rfl rfl ?_
  refine FA.op (O.move rfl rfl) rfl rfl rfl rfl ?_
  refine FA.op (O.call rfl Tryz.func82 rfl rfl rfl (mod_fn _ _ hn1 hn2)) rfl rfl rfl rfl ?_
  refine FA.op (O.assign rfl rfl) rfl rfl rfl rfl ?_
  refine FA.nil ?_
  simp only[a0h,cN,cA,cP]
  refine AO.nil ?_
  refine AQ.thenN ?_
  refine AW.ret ?_
  have e1:nxt l k n=l.getD k 0%n:=by simp only[nxt,if_pos h]
  have e2:adv l k=k+1:=by simp only[adv,if_pos h]
  refine AQ.ret1 rfl rfl ⟨_,by repeat(first|exact List.Sublist.slnil|refine List.Sublist.cons_cons _ ?_),List.Perm.refl _⟩ (⟨congrArg (fun z=>AV.val (.int .i64 z)) e1.symm,congrArg (fun z=> [g0Y b l z]) e2.symm⟩)
end Go.Proofs.YtojomcdjcpmnkaaGreat.Dk
namespace Go.Proofs.YtojomcdjcpmnkaaGreat.By
open Go.RowKit L A
attribute [local irreducible] AW AQ AO
section
variable {α:Type}{f:α→List AV}{k:Nat}
theorem i0p (hf: ∀a,(f a).length=k): ∀l:List α,(l.flatMap f).length=l.length*k
 | []=>by simp
 |a::l=>by rw[List.flatMap_cons,cH,hf,i0p hf l,cL,Nat.add_mul];omega
theorem j0t (hf: ∀a,(f a).length=k): ∀(l:List α) (n:Nat),(l.flatMap f).take (n*k)=(l.take n).flatMap f
 | [],n=>by simp
 |a::l,0=>by simp
 |a::l,n+1=>by
  rw[List.flatMap_cons,cT,List.flatMap_cons,←j0t hf l n,show(n+1)*k=(f a).length+n*k by rw[hf,Nat.add_mul];omega,List.take_length_add_append]
theorem g0w (hf: ∀a,(f a).length=k): ∀(l:List α) (n:Nat),(l.flatMap f).drop (n*k)=(l.drop n).flatMap f
 | [],n=>by simp
 |a::l,0=>by simp
 |a::l,n+1=>by
  rw[List.flatMap_cons,cD,←g0w hf l n,show(n+1)*k=(f a).length+n*k by rw[hf,Nat.add_mul];omega,List.drop_length_add_append]
theorem g0x (hf: ∀a,(f a).length=k)(d:α){l:List α}{i:Nat}(h:i<l.length){j:Nat}(hj:j=i):((l.flatMap f).drop (j*k)).take k=f (l.getD i d):=by
 subst hj
 rw[g0w hf,List.drop_eq_getElem_cons h,List.flatMap_cons,List.take_left' (hf _)]
 simp[h]
theorem j0v (hf: ∀a,(f a).length=k)(d:α){l:List α}{i c:Nat}(h:i<l.length)(hc:c<k){j:Nat}(hj:j=i*k+c):(l.flatMap f)[j]? =(f (l.getD i d))[c]? :=by
 have:=g0x hf d h rfl
 rw[←this,List.getElem?_take,if_pos hc,List.getElem?_drop,hj]
theorem r0r (l m:List α):(l++m).flatMap f=l.flatMap f++m.flatMap f:=List.flatMap_append
theorem j0u (l:List α)(a:α):(l++[a]).flatMap f=l.flatMap f++f a:=by simp[List.flatMap_append]
theorem a0i (d:α){l:List α}{i:Nat}(h:i<l.length):l.take (i+1)=l.take i++[l.getD i d]:=by
 rw[List.take_succ_eq_append_getElem h];simp[h]
theorem j0B (d:α){l:List α}{i:Nat}(h:i<l.length):l.drop i=l.getD i d::l.drop (i+1):=by
 rw[List.drop_eq_getElem_cons h];simp[h]
theorem b0m (d:α){l:List α}{i:Nat}(h:i<l.length):l.getD i d∈l:=by simp[h]
end
theorem g0H {p:Prop}[Decidable p]{b:Bool}(h:p↔b=true):decide p=b:=by
 cases b
 ·exact decide_eq_false fun hp=>by have:=h.1 hp;cases this
 exact decide_eq_true (h.2 rfl)
abbrev bt (l:List UInt8)(k:Nat):UInt8:=l.getD k 0
theorem b0l {l:List UInt8}{k:Nat}(h:k<l.length){j:Nat}(hj:j=k):(a0a l)[j]? =some (.val (.int .u8 ((bt l k).toNat:Int))):=by
 subst hj;simp[a0a,h,bt]
theorem b0B (x:UInt8):0≤(x.toNat:Int)∧(x.toNat:Int)<256:=by have:=x.toNat_lt;omega
theorem u8_eq {x y:UInt8}:(x.toNat:Int)=(y.toNat:Int)↔x=y:=by
 rw[Int.ofNat_inj];exact UInt8.toNat_inj
theorem h0K (x:UInt8):u8 (x.toNat:Int)=x:=by
 have h:=b0B x
 unfold u8
 rw[Int.emod_eq_of_lt h.1 h.2]
 simp
theorem u0O (x y:Int)(h:x%256=y%256):u8 x=u8 y:=by unfold u8;rw[h]
theorem a0I {x:Int}(h:0≤x∧x<256):((u8 x).toNat:Int)=x:=by rw[c0r];omega
theorem b0u {n:Nat}{xs:List AV}{l:List UInt8}(h1:n=l.length)(h2:xs=a0a l):AV.ro false n xs=roB l:=by subst h1;subst h2;rfl
theorem g0G {l:List UInt8}{k:Nat}(h:k<l.length):l.drop k=bt l k::l.drop (k+1):=j0B 0 h
theorem k0b {l:List UInt8}{k:Nat}(h:k<l.length):l.take (k+1)=l.take k++[bt l k]:=a0i 0 h
theorem k0P (l:List UInt8)(n:Nat):(a0a l).take (n*1)=a0a (l.take n):=by simp[a0a,List.map_take]
theorem k0Q (l:List UInt8)(n:Nat):(a0a l).drop (n*1)=a0a (l.drop n):=by simp[a0a,List.map_drop]
theorem g0L {l:List UInt8}{a c n m:Nat}(h:a=n)(h2:c=m):((a0a l).drop (a*1)).take (c*1)=a0a ((l.drop n).take m):=by subst h;subst h2;simp[a0a,List.map_drop,List.map_take]
@[simp] theorem s0L (l:List UInt8) (n:Nat):(a0a l).take n=a0a (l.take n):=by simp[a0a,List.map_take]
@[simp] theorem t0Z (l:List UInt8) (n:Nat):(a0a l).drop n=a0a (l.drop n):=by simp[a0a,List.map_drop]
section
variable {P:Program}{E:Env}{H:List HE}{N:Nat}{o:Oper}
theorem _root_.Go.Proofs.YtojomcdjcpmnkaaGreat.A.O.sliceToB {T:Nat}{x y:Operand}{k:Nat}{kk:IntKind}{z:Int}{l:List UInt8}{U bs:Nat}{zz:Value}[hs:TyS P T U 1 bs zz](ho:o.op= .slice T x none (some y) none)(hx:ev E x=some (roB l))(hy:ev E y=some (.val (.int kk z)))(hz:z=(k:Int))(hk:k≤l.length):OpW P N o E H (Is (roB (l.take k))):=by
 have:=O.sliceTo (P:=P) (k:=k) (H:=H) (N:=N) ho hx hy hz hk (k0P l k)
 rwa [b0u (by simp;omega) rfl]at this
theorem _root_.Go.Proofs.YtojomcdjcpmnkaaGreat.A.O.sliceFromB {T:Nat}{x y:Operand}{k:Nat}{kk:IntKind}{z:Int}{l:List UInt8}{U bs:Nat}{zz:Value}[hs:TyS P T U 1 bs zz](ho:o.op= .slice T x (some y) none none)(hx:ev E x=some (roB l))(hy:ev E y=some (.val (.int kk z)))(hz:z=(k:Int))(hk:k≤l.length):OpW P N o E H (Is (roB (l.drop k))):=by
 have:=O.sliceFrom (P:=P) (k:=k) (H:=H) (N:=N) ho hx hy hz hk (by simp) (k0Q l k)
 rwa [b0u (by simp) rfl]at this
theorem _root_.Go.Proofs.YtojomcdjcpmnkaaGreat.A.O.sliceLHB {T:Nat}{x y y':Operand}{lo hi:Nat}{kk kk':IntKind}{z z':Int}{l:List UInt8}{U bs:Nat}{zz:Value}[hs:TyS P T U 1 bs zz](ho:o.op= .slice T x (some y) (some y') none)(hx:ev E x=some (roB l))(hy:ev E y=some (.val (.int kk z)))(hy':ev E y'=some (.val (.int kk' z')))(hz:z=(lo:Int))(hz':z'=(hi:Int))(hlh:lo≤hi)(hhn:hi≤l.length):OpW P N o E H (Is (roB ((l.drop lo).take (hi-lo)))):=by
 have:=O.sliceLH (P:=P) (l:=lo) (h:=hi) (H:=H) (N:=N) ho hx hy hy' hz hz' hlh hhn (g0L rfl rfl)
 rwa [b0u (by simp;omega) rfl]at this
end
structure Opt where
 num:Int
 val:List UInt8
 deriving DecidableEq
structure Msg where
 ty:Int
 code:Int
 id:Int
 tok:List UInt8
 opts:List Opt
 pay:List UInt8
 deriving DecidableEq
def Opt.none:Opt:=⟨0,[]⟩
def Msg.none:Msg:=⟨0,0,0,[],[],[]⟩
def p0E (o:Opt):List AV:= [.val (.int .i64 o.num),roB o.val]
theorem c0d (o:Opt):(p0E o).length=2:=rfl
def a0z (os:List Opt):List AV:=os.flatMap p0E
def roO (os:List Opt):AV:= .ro false os.length (a0z os)
def v0P (m:Msg):List AV:= [.val (.int .i64 m.ty),.val (.int .i64 m.code),.val (.int .i64 m.id),roB m.tok,roO m.opts,roB m.pay]
abbrev b0c (m:Msg):AV:= .agg [.val (.int .i64 m.ty),.val (.int .i64 m.code),.val (.int .i64 m.id),roB m.tok,roO m.opts,roB m.pay]
abbrev x0G (o:Opt):AV:= .agg [.val (.int .i64 o.num),roB o.val]
theorem a0w (l:List UInt8):(roB l).cells= [roB l]:=rfl
theorem a0v (l:List Int):(roI l).cells= [roI l]:=rfl
theorem a0y (l:List Opt):(roO l).cells= [roO l]:=rfl
abbrev oat (os:List Opt)(k:Nat):Opt:=os.getD k Opt.none
@[simp] theorem o0M (os:List Opt):(a0z os).length=os.length*2:=i0p c0d os
theorem g0l (a b:List Opt):a0z (a++b)=a0z a++a0z b:=r0r a b
theorem a0D (a:List Opt)(o:Opt):a0z (a++[o])=a0z a++[.val (.int .i64 o.num),roB o.val]:=j0u a o
theorem b0R (os:List Opt):(a0z os).all AV.one=true:=by
 induction os with
 |nil=>rfl
 |cons o os ih=>rw[a0z,List.flatMap_cons,List.all_append];rw[a0z]at ih;rw[ih];rfl
theorem x0q {os:List Opt}{k:Nat}(h:k<os.length){j:Nat}(hj:j=k):((a0z os).drop (j*2)).take 2= [.val (.int .i64 (oat os k).num),roB (oat os k).val]:=g0x c0d Opt.none h hj
theorem t0W {os:List Opt}{k:Nat}(h:k<os.length){j:Nat}(hj:j=k*2):(a0z os)[j]? =some (.val (.int .i64 (oat os k).num)):=j0v c0d Opt.none h (c:=0) (by omega) hj
theorem w0Q {os:List Opt}{k:Nat}(h:k<os.length){j:Nat}(hj:j=k*2+1):(a0z os)[j]? =some (roB (oat os k).val):=j0v c0d Opt.none h (c:=1) (by omega) hj
end Go.Proofs.YtojomcdjcpmnkaaGreat.By
namespace Go.Proofs.YtojomcdjcpmnkaaGreat.By
open Go.RowKit L A
inductive It where
 |mk (k n:Int) (b:List UInt8) (l:List It)
abbrev hnI (k n:Int)(b:List UInt8)(m:Nat):Int:=if k=2∨k=3 then(b.length:Int)else if k=4 then(m:Int)else n
mutual
def It.cells:It→List AV
 | .mk k n b l=> [.val (.int .i64 k),.val (.int .u64 n),roB b,.ro false l.length (e0w l)]
def e0w:List It→List AV
 | []=> []
 |x::l=>x.cells++e0w l
end
mutual
def It.nodes:It→Nat
 | .mk _ _ _ l=>1+s0b l
def s0b:List It→Nat
 | []=>0
 |x::l=>x.nodes+s0b l
end
mutual
def It.enc:It→List UInt8
 | .mk k n b l=>u8 (32*k+hnI k n b l.length)::(b++c0n l)
def c0n:List It→List UInt8
 | []=> []
 |x::l=>x.enc++c0n l
end
theorem i0n (l:List It):e0w l=l.flatMap It.cells:=by
 induction l with
 |nil=>rw[e0w];rfl
 |cons x l ih=>rw[e0w,ih,List.flatMap_cons]
theorem j0I (x:It):x.cells.length=4:=by cases x;rw[It.cells];rfl
theorem h0z (l:List It)(x:It):c0n (l++[x])=c0n l++x.enc:=by
 induction l with
 |nil=>simp[c0n]
 |cons y l ih=>simp[c0n,ih]
theorem g0F (l m:List It):c0n (l++m)=c0n l++c0n m:=by
 induction l with
 |nil=>simp[c0n]
 |cons y l ih=>simp[c0n,ih]
def itN:It:= .mk 0 0 [] []
abbrev q0d (l:List It)(k:Nat):It:=l.getD k itN
theorem v0C {l:List It}{k:Nat}(h:k<l.length){j:Nat}(hj:j=k):((e0w l).drop (j*4)).take 4=(q0d l k).cells:=by
 rw[i0n];exact g0x j0I itN h hj
theorem r0k (l:List It):(e0w l).length=l.length*4:=by rw[i0n];exact i0p j0I l
theorem d0K {k n:Int}{b:List UInt8}:(It.mk k n b []).enc=u8 (32*k+hnI k n b 0)::b:=by
 rw[It.enc,c0n,cP];rfl
theorem k0H {n:Int}{l:List It}:(It.mk 4 n [] l).enc=u8 (32*4+(l.length:Int))::c0n l:=by
 rw[It.enc];rfl
end Go.Proofs.YtojomcdjcpmnkaaGreat.By
namespace Go.Proofs.YtojomcdjcpmnkaaGreat.A
open Go.RowKit L
section
variable {Γ:Cx}{P:Program}{Q:Exit→Act→World→Prop}{E:Env}{H:List HE}
theorem G.freezeK {X:Act→World→Prop}(i:Nat){v:Value}{T sz n:Nat}{xs:List AV}(hi:H[i]? =some (.row v T sz n xs))
  (k: ∀R a W,RelS Γ R (H.eraseIdx i) W→RelA Γ.N R W E a→RelV R W (.ro false n xs) v→X a W):G Γ E H X:=fun R a W hs ha=>by
 have hmem:=List.mem_of_getElem? hi
 obtain⟨hlt,he⟩:=List.getElem?_eq_some_iff.1 hi
 have hsub:(H.eraseIdx i).Sublist H:=List.eraseIdx_sublist _ _
 have hdis: ∀f∈H.eraseIdx i,∀b,f.foot b→ ¬(HE.row v T sz n xs).foot b:=fun f hf b hb hb'=>by
  obtain⟨j,hj,rfl⟩:=List.getElem_of_mem hf
  rw[List.getElem_eraseIdx]at hb
  rw[List.length_eraseIdx,if_pos hlt]at hj
  split at hb
  ·exact(List.pairwise_iff_getElem.1 hs.disj j i (by omega) hlt (by omega)) b hb (by rw[he];exact hb')
  ·exact(List.pairwise_iff_getElem.1 hs.disj i (j+1) hlt (by omega) (by omega)) b (by rw[he];exact hb') hb
 have hRS: ∀b,R b→R b∨(HE.row v T sz n xs).foot b:=fun b h=> .inl h
 obtain⟨us,hown,hr⟩:=hs.ok _ hmem
 refine k (fun b=>R b∨(HE.row v T sz n xs).foot b) a W ⟨hs.mods,?_,fun b hb=> .inl (hs.rsub b hb),?_,fun e he=>HE.ok_mono hRS (fun _ _=>rfl) (Nat.le_refl _) (fun _ _=>rfl) (hs.ok e (hsub.subset he)),?_,hs.disj.sublist hsub⟩ (ha.mono hRS (fun _ _=>rfl)) ?_
 ·rintro b (hb|hb)
  ·exact hs.rlt b hb
  ·exact HE.ok_lt (hs.ok _ hmem) hb
 ·rintro b (hb|hb)
  ·exact hs.rnew b hb
  ·exact .inr (hs.own _ hmem b hb).1
 ·intro e he b hb
  refine⟨(hs.own e (hsub.subset he) b hb).1,?_⟩
  rintro(h|h)
  ·exact(hs.own e (hsub.subset he) b hb).2 h
  ·exact hdis e he b hb h
 ·have hr':=hr.mono hRS (W':=W) (fun _ _=>rfl)
  rcases hown.2 with⟨rfl,rfl⟩|⟨g,cap,cur,rfl,hbg,hg,h1,h2,h3,h4⟩
  ·have:xs= []:=List.eq_nil_of_length_eq_zero (by rw[←hr.1,hown.1];simp)
   subst this
   exact .emp _ _ _ (fun h=>by cases h) (Nat.zero_le _)
  ·refine .ro false n xs g 0 cap (fun j=>us.getD j undef) (.inr rfl) (fun j hj=> ?_) (fun j hj=>hr'.2 j hj) h1 h2 (fun h=>by cases h)
   have hj':j<us.length:=by rw[hr.1];exact hj
   have:=hown.cells (g:=g) rfl j us[j] (by simp[hj'])
   rw[a0N]at this
   rw[this]
   simp[List.getD,hj']
theorem G.freezeCell {X:Act→World→Prop}(i j c:Nat){v:Value}{T sz n:Nat}{xs:List AV}{b T' room:Nat}{ys:List AV}(hi:H[i]? =some (.row v T sz n xs))(hj:(H.eraseIdx i)[j]? =some (.blk b T' room ys))(hc:ys[c]? =some (.val v))
  (k:G Γ E ((H.eraseIdx i).set j (.blk b T' room (ys.set c (.ro false n xs)))) X):G Γ E H X:=G.freezeK i hi fun R a W hs ha hv=>by
 obtain⟨us,cs,h1,h2,h3,h4⟩:=hs.ok _ (List.mem_of_getElem? hj)
 obtain⟨u,hu1,hu2⟩:=h4.get hc
 have hu3:=hu2.val_inv
 subst hu3
 refine k R a W (hs.setSame hj (fun b hb=>hb) ⟨us,cs,h1,h2,by rw[List.length_set];exact h3,?_⟩) ha
 have h5:=h4.set c hv
 rwa [show us.set c u=us from List.ext_getElem? fun q=>by
  rcases Nat.decEq c q with h|h
  ·rw[List.getElem?_set_ne h]
  ·subst h;rw[List.getElem?_set_self (List.getElem?_eq_some_iff.1 hu1).1,hu1]]at h5
theorem G.coeCell {X:Act→World→Prop}(j c:Nat){b T' room:Nat}{ys:List AV}{u w:AV}(hj:H[j]? =some (.blk b T' room ys))(hc:ys[c]? =some u)(hw:Coe u w)
  (k:G Γ E (H.set j (.blk b T' room (ys.set c w))) X):G Γ E H X:=fun R a W hs ha=>by
 obtain⟨us,cs,h1,h2,h3,h4⟩:=hs.ok _ (List.mem_of_getElem? hj)
 obtain⟨z,hu1,hu2⟩:=h4.get hc
 refine k R a W (hs.setSame hj (fun b hb=>hb) ⟨us,cs,h1,h2,by rw[List.length_set];exact h3,?_⟩) ha
 have h5:=h4.set c (hw R W _ hu2)
 rwa [show us.set c z=us from List.ext_getElem? fun q=>by
  rcases Nat.decEq c q with h|h
  ·rw[List.getElem?_set_ne h]
  ·subst h;rw[List.getElem?_set_self (List.getElem?_eq_some_iff.1 hu1).1,hu1]]at h5
end
section
variable {P:Program}{ops:Array Oper}{N:Nat}
structure MJ (P:Program) (Γ:Cx) (ops:Array Oper) (Hs:List HE) (K:Env→List HE→Prop) (ord:List (Nat×Bool)) (late:List Nat) (listed:Array Bool) (A:Act) (W:World) (pre ms:List (Nat×Bool)) (Pd:List Nat) (E:Env) (H:List HE) (R:Nat→Prop):Prop where
 size:listed.size=ops.size
 closed:c0O ops listed
 part: ∀i,i<ops.size→(listed.getD i false=false↔i∈Pd∨i∈ms.map Prod.fst∨i∈late)
 ord:ord=pre++ms
 pdp: ∀i∈Pd,(i,false)∈pre
 am:AM P Γ.N ops Hs K ms E H
 pend: ∀i∈Pd,∃o d v,ops[i]? =some o∧o.dst=some d∧d<Γ.N∧a0r E d=some v∧OpF P Γ.N ops o (rst E (o.looksAt ops)) Hs (Is v)
 rels:RelS Γ R (H++Hs) W
 defers:A.defers= []
 tmps:A.tmps.size=Γ.N
 act: ∀t v,a0r E t=some v→(∀i∈Pd,∀o,ops[i]? =some o→o.dst≠some t)→RelV R W v (A.eval (.tmp t))
variable {Γ:Cx}{Hs:List HE}{K:Env→List HE→Prop}{ord:List (Nat×Bool)}{late:List Nat}
theorem MJ.absorb {listed:Array Bool}{A:Act}{W:World}{R:Nat→Prop}(hok:b0f ops (c0P ops.toList []) ord=true): ∀(ms pre:List (Nat×Bool)) (Pd:List Nat) (E:Env) (H:List HE),MJ P Γ ops Hs K ord late listed A W pre ms Pd E H R→
  ∃pre' ms' Pd' E',MJ P Γ ops Hs K ord late listed A W pre' ms' Pd' E' H R∧(ms'= []∨ ∃m r,ms'=(m,true)::r)
 | [],pre,Pd,E,H,h=>⟨pre,[],Pd,E,h,.inl rfl⟩
 |(m,true)::r,pre,Pd,E,H,h=>⟨pre,_,Pd,E,h,.inr ⟨m,r,rfl⟩⟩
 | (j,false)::r,pre,Pd,E,H,h=>by
  obtain⟨o,d,v,ho,hd,hN,hop,ham⟩:=h.am
  have hord:=h.ord
  have hq:=a0m (pre:=pre) (r:=(j,false)::r) (by rw[←hord];exact hok)
  have hself:d∉o.looksAt ops:=by
   have:=hq.1
   rw[b0f]at this
   simp only[Bool.and_eq_true,ho,hd,Bool.false_or]at this
   simpa using this.1.1
  have hp: ∀i∈Pd,∀oi,ops[i]? =some oi→d∉oi.looksAt ops∧oi.dst≠some d:=fun i hi oi hoi=>by
   have:=b0J (hq.2 _ (h.pdp i hi) (j,false) (List.mem_cons_self ..)) hoi ho
   obtain⟨d',h1,h2,h3⟩:=this.flt rfl
   rw[hd]at h1
   cases h1
   exact⟨h2,h3⟩
  refine MJ.absorb hok r (pre++[(j,false)]) (j::Pd) ((d,v)::E) H ⟨h.size,h.closed,fun i hi=> ?_,by rw[hord];simp,fun i hi=> ?_,ham,fun i hi=> ?_,h.rels,h.defers,h.tmps,fun t x ht hpd=> ?_⟩
  ·rw[h.part i hi]
   simp only[List.map_cons,List.mem_cons]
   constructor
   ·rintro(h|(h|h)|h)
    ·exact .inl (.inr h)
    ·exact .inl (.inl h)
    ·exact .inr (.inl h)
    ·exact .inr (.inr h)
   ·rintro((h|h)|h|h)
    ·exact .inr (.inl (.inl h))
    ·exact .inl h
    ·exact .inr (.inl (.inr h))
    ·exact .inr (.inr h)
  ·rcases List.mem_cons.1 hi with rfl|hi
   ·simp
   ·exact List.mem_append_left _ (h.pdp i hi)
  ·rcases List.mem_cons.1 hi with rfl|hi
   ·exact⟨o,d,v,ho,hd,hN,b0n,by rw[b0e hself];exact hop⟩
   ·obtain⟨oi,di,vi,h1,h2,h3,h4,h5⟩:=h.pend i hi
    obtain⟨h6,h7⟩:=hp i hi oi h1
    refine⟨oi,di,vi,h1,h2,h3,?_,by rw[b0e h6];exact h5⟩
    rw[a0J (fun e=>h7 (by rw[h2,e]))];exact h4
  ·have hne:d≠t:=fun e=>hpd j (List.mem_cons_self ..) o ho (by rw[hd,e])
   rw[a0J hne]at ht
   exact h.act t x ht fun i hi=>hpd i (List.mem_cons_of_mem _ hi)
theorem MJ.reads {listed:Array Bool}{A:Act}{W:World}{R:Nat→Prop}{pre ms:List (Nat×Bool)}{Pd:List Nat}{E:Env}{H:List HE}(hok:b0f ops (c0P ops.toList []) ord=true)(h:MJ P Γ ops Hs K ord late listed A W pre ms Pd E H R)
  {i:Nat} {b:Bool} {o:Oper} (ho:ops[i]? =some o) (hdeps: ∀e∈o.after,Region.binds .any e=true→listed.getD e.on false=true) (hi:(i,b)∈pre∧i∈Pd∧b=false∨ ∃r,ms=(i,b)::r):RelA Γ.N R W (rst E (o.looksAt ops)) A:=by
 refine⟨h.defers,h.tmps,fun t v ht=> ?_⟩
 obtain⟨htl,ht⟩:=d0b ht
 refine h.act t v ht fun k hk ok hok' hdk=> ?_
 have hkp:=h.pdp k hk
 have hkf:listed.getD k false=false:=(h.part k (Array.getElem?_eq_some_iff.1 hok').1).2 (.inl hk)
 have direct:e0X ops (c0P ops.toList []) k false i b=true→False:=fun hp=>by
  obtain⟨e,he,hb,hon⟩:=(b0J hp hok' ho).reads t hdk htl
  have:=hdeps e he hb
  rw[hon,hkf]at this;cases this
 rcases hi with⟨hip,hiP,rfl⟩|⟨r,hms⟩
 ·
  obtain⟨p1,p2,hp12⟩:=List.append_of_mem hkp
  have hord:=h.ord
  rw[hp12,List.append_assoc]at hord
  rw[hp12]at hip
  rcases List.mem_append.1 hip with hip|hip
  ·
   have hq:=a0m (pre:=p1) (by rw[←hord];exact hok)
   have:=b0J (hq.2 _ hip (k,false) (List.mem_cons_self ..)) ho hok'
   obtain⟨d',h1,h2, -⟩:=this.flt rfl
   rw[hdk]at h1;cases h1
   exact h2 htl
  ·rcases List.mem_cons.1 hip with he|hip
   ·cases he
    have hq:=(a0m (pre:=p1) (by rw[←hord];exact hok)).1
    rw[cA,b0f]at hq
    simp only[Bool.and_eq_true]at hq
    obtain rfl:o=ok:=by rw[ho]at hok';exact Option.some.inj hok'
    have:=hq.1.1
    rw[ho]at this
    simp only[hdk,Bool.false_or]at this
    simp at this
    exact this htl
   ·rw[show p1++((k,false)::p2++ms)=(p1++[(k,false)])++(p2++ms) by simp]at hord
    have hq:=a0m (pre:=p1++[(k,false)]) (by rw[←hord];exact hok)
    exact direct (hq.2 (k,false) (by simp) (i,false) (List.mem_append_left _ hip))
 ·have hq:=a0m (pre:=pre) (r:=ms) (by rw[←h.ord];exact hok)
  exact direct (hq.2 _ hkp (i,b) (by rw[hms];exact List.mem_cons_self ..))
theorem MJ.stage {Q:Exit→Act→World→Prop}(hback: ∀i o,ops[i]? =some o→ ∀e∈o.after,Region.binds .any e=true→e.on<i)(hpairs:b0f ops (c0P ops.toList []) ord=true)(hlt: ∀q∈ord,q.1<ops.size)
  (hlate: ∀j∈late,∀q∈ord,q.1∈(c0P ops.toList []).getD j [])
  (hfin: ∀(listed:Array Bool) (A:Act) (W:World) (E:Env) (H:List HE) (R:Nat→Prop),listed.size=ops.size→c0O ops listed→(∀i,i<ops.size→(listed.getD i false=false↔i∈late))→RelS Γ R (H++Hs) W→RelA Γ.N R W E A→K E H→wpAny P .any ops Q (listed.toList.count false) listed A W):
  ∀(fuel:Nat) (listed:Array Bool) (A:Act) (W:World) (pre ms:List (Nat×Bool)) (Pd:List Nat) (E:Env) (H:List HE) (R:Nat→Prop),fuel=listed.toList.count false→
   MJ P Γ ops Hs K ord late listed A W pre ms Pd E H R→(ms= []∨ ∃m r,ms=(m,true)::r)→wpAny P .any ops Q fuel listed A W:=by
 intro fuel
 induction fuel with
 | zero=>
  intro listed A W pre ms Pd E H R hc hI hhd
  have hlist: ∀i,i<ops.size→listed.getD i false=true:=by
   intro i hi
   have hi':i<listed.size:=by rw[hI.size];exact hi
   cases hb:listed.getD i false with
   |true=>rfl
   | false=>
    exfalso
    have hm:false∈listed.toList:=by
     rw[←hb];simp[Array.getD,hi']
    have:=List.count_pos_iff.2 hm
    omega
  have hms:ms= []:=by
   rcases hhd with h|⟨m,r,h⟩
   ·exact h
   ·have h1:=hlt (m,true) (by rw[hI.ord,h];simp)
    have:=(hI.part m h1).2 (.inr (.inl (by rw[h];simp)))
    rw[hlist m h1]at this;cases this
  have hPd:Pd= []:=by
   rw[List.eq_nil_iff_forall_not_mem]
   intro i hi
   have h1:=hlt (i,false) (by rw[hI.ord];exact List.mem_append_left _ (hI.pdp i hi))
   have:=(hI.part i h1).2 (.inl hi)
   rw[hlist i h1]at this;cases this
  subst hms
  subst hPd
  rw[hc]
  exact hfin listed A W E H R hI.size hI.closed (fun i hi=>by rw[hI.part i hi];simp) hI.rels ⟨hI.defers,hI.tmps,fun t v ht=>hI.act t v ht fun i hi=>(by cases hi)⟩ hI.am
 | succ fuel ih=>
  intro listed A W pre ms Pd E H R hc hI hhd
  by_cases hemp:ms= []∧Pd= []
  ·obtain⟨rfl,rfl⟩:=hemp
   rw[hc]
   exact hfin listed A W E H R hI.size hI.closed (fun i hi=>by rw[hI.part i hi];simp) hI.rels ⟨hI.defers,hI.tmps,fun t v ht=>hI.act t v ht fun i hi=>(by cases hi)⟩ hI.am
  have hun: ∃q∈ord,listed.getD q.1 false=false:=by
   rcases hhd with h|⟨m,r,h⟩
   ·cases Pd with
    |nil=>exact absurd ⟨h,rfl⟩ hemp
    |cons p Pd=>
     have h1:(p,false)∈ord:=by rw[hI.ord];exact List.mem_append_left _ (hI.pdp p (List.mem_cons_self ..))
     exact⟨_,h1,(hI.part p (hlt _ h1)).2 (.inl (List.mem_cons_self ..))⟩
   ·have h1:(m,true)∈ord:=by rw[hI.ord,h];simp
    exact⟨_,h1,(hI.part m (hlt _ h1)).2 (.inr (.inl (by rw[h];simp)))⟩
  have hne: ∃i,i∈Region.ready .any ops listed:=by
   have hex: ∃i,i<ops.size∧listed.getD i false=false:=by
    have hpos:0<listed.toList.count false:=by omega
    obtain⟨i,hi,hf⟩:=List.getElem_of_mem (List.count_pos_iff.1 hpos)
    have hi':i<listed.size:=by simpa using hi
    exact⟨i,by rw[←hI.size];exact hi',by simpa[Array.getD,hi']using hf⟩
   obtain⟨i,⟨hi,hf⟩,hmin⟩: ∃i,(i<ops.size∧listed.getD i false=false)∧ ∀j,j<i→ ¬(j<ops.size∧listed.getD j false=false):=by
    obtain⟨i,h⟩:=hex
    exact m0P ⟨i,h⟩
   have hio:ops[i]? =some ops[i]:=by simp[hi]
   refine⟨i,mem_ready.2 ⟨by rw[b0a (by rw[hI.size];exact hi)];exact hf,_,hio,fun e he hb=> ?_⟩⟩
   have:=hback i _ hio e he hb
   cases hb2:listed.getD e.on false with
   |true=>rfl
   |false=>exact absurd ⟨by omega,hb2⟩ (hmin e.on this)
  refine⟨fun e=>(by obtain⟨i,hi⟩:=hne;rw[e]at hi;cases hi),fun i hi=> ?_⟩
  obtain⟨h0,o,ho,hdeps⟩:=mem_ready.1 hi
  have hio:i<ops.size:=(Array.getElem?_eq_some_iff.1 ho).1
  have hf:listed.getD i false=false:=by rw[←b0a (by rw[hI.size];exact hio)];exact h0
  have hil:i<listed.size:=by rw[hI.size];exact hio
  have hanc: ∀j,j∈(c0P ops.toList []).getD i []→listed.getD j false=true:=fun j hj=>c0M hI.closed hback i o ho hdeps j hj
  have hcl:=c0c hI.closed ho hil hdeps
  have hcnt:fuel=(listed.setIfInBounds i true).toList.count false:=by
   have hcs:=a0T listed.toList i (by simpa using hil) (by simpa[Array.getD,hil]using hf)
   simp only[Array.toList_setIfInBounds]
   omega
  have hgd: ∀k,k≠i→(listed.setIfInBounds i true).getD k false=listed.getD k false:=fun k hk=>getD_set_ne false (Ne.symm hk)
  have hgi:(listed.setIfInBounds i true).getD i false=true:=by simp[Array.getD,hil]
  have hsz:(listed.setIfInBounds i true).size=ops.size:=by simpa using hI.size
  have hnl:i∉late:=fun h=>by
   obtain⟨q,hq,hqf⟩:=hun
   have:=hanc q.1 (hlate i h q hq)
   rw[hqf]at this;cases this
  rcases(hI.part i hio).1 hf with hPd|hms|hlt'
  ·
   obtain⟨o',d,v,ho',hd,hN,hlk,hop⟩:=hI.pend i hPd
   obtain rfl:o=o':=by rw[ho]at ho';exact Option.some.inj ho'
   have hA:=hI.reads hpairs ho hdeps (b:=false) (.inl ⟨hI.pdp i hPd,hPd,rfl⟩)
   have hs:=hop R A W hI.rels.rlt (fun e he=>hI.rels.ok e (List.mem_append_right _ he)) (fun e he b hb=>(hI.rels.own e (List.mem_append_right _ he) b hb).2) hA
   have hnext: ∀u W',(∃v' Hn R',Is v v' Hn∧Post1 R W v' Hn u W' R')→wpAny P .any ops Q fuel (listed.setIfInBounds i true) (A.put o.dst u) W':=by
    rintro u W' ⟨v',Hn,R',⟨rfl,rfl⟩,hp⟩
    have hnm:i∉ms.map Prod.fst:=fun hm=>by
     obtain⟨⟨j,c⟩,hq,hji⟩:=List.mem_map.1 hm
     have hq2:=(a0m (pre:=pre) (r:=ms) (by rw[←hI.ord];exact hpairs)).2 _ (hI.pdp i hPd) _ hq
     simp only at hji
     subst hji
     exact(b0J hq2 ho ho).ne rfl
    refine ih _ _ _ pre ms (Pd.filter (· ≠i)) E H R' hcnt ⟨hsz,hcl,fun k hk=> ?_,hI.ord,fun k hk=>hI.pdp k (List.mem_filter.1 hk).1,hI.am,fun k hk=>hI.pend k (List.mem_filter.1 hk).1,by simpa using hI.rels.step hp,?_,?_,fun t x ht hpd=> ?_⟩ hhd
    ·by_cases hki:k=i
     ·subst hki
      rw[hgi]
      simp[hnm,hnl]
     ·rw[hgd k hki,hI.part k hk]
      simp[hki]
    ·rw[hd];exact hI.defers
    ·rw[hd];simp[Act.put,hI.tmps]
    ·rw[hd]
     by_cases hdt:d=t
     ·subst hdt
      rw[hlk]at ht
      cases ht
      rw[a0t (by rw[hI.tmps];exact hN)];exact hp.val
     ·rw[a0d hdt]
      refine(hI.act t x ht fun k hk ok hok hdk=> ?_).mono hp.sub (c0D hp.ext hI.rels.rlt)
      by_cases hki:k=i
      ·subst hki
       rw[ho]at hok
       cases hok
       rw[hd]at hdk
       cases hdk
       exact hdt rfl
      ·exact hpd k (List.mem_filter.2 ⟨hk,by simpa using hki⟩) ok hok hdk
   unfold wpOp
   rw[ho]
   unfold c0N at hs
   show if Region.wanted o (yielded ops A.tmps)=true then _ else _
   split
   ·rename_i hw
    rw[if_pos hw]at hs
    refine .inl (Oper.wp_mono ?_ (a0Z hs))
    rintro A' W' ⟨u,rfl,hp⟩
    exact hnext u W' hp
   ·rename_i hw
    rw[if_neg hw]at hs
    exact hnext _ _ hs
  ·
   rcases hhd with rfl|⟨m,r,rfl⟩
   ·cases hms
   have hmlt:m<ops.size:=by have:=hlt (m,true) (by rw[hI.ord];simp);exact this
   have hmf:listed.getD m false=false:=(hI.part m hmlt).2 (.inr (.inl (by simp)))
   have him:i=m:=by
    rcases List.mem_cons.1 hms with h|h
    ·exact h
    ·exfalso
     obtain⟨⟨j,c⟩,hq,hji⟩:=List.mem_map.1 h
     simp only at hji
     subst hji
     have h9:=(a0m (pre:=pre++[(m,true)]) (r:=r) (by have:=hI.ord;rw[List.append_assoc,List.singleton_append,←this];exact hpairs)).2 (m,true) (by simp) _ hq
     have hom:ops[m]? =some ops[m]:=by simp[hmlt]
     have:=hanc m ((b0J h9 hom ho).main rfl)
     rw[hmf]at this;cases this
   subst him
   obtain⟨o',ho',hAO⟩:=hI.am
   obtain rfl:o=o':=by rw[ho]at ho';exact Option.some.inj ho'
   have hA:=hI.reads hpairs ho hdeps (b:=true) (.inr ⟨r,rfl⟩)
   have hs:=hAO W R R A W ⟨Mods.refl _ _,hI.rels.rlt,fun _ h=>h,fun _ h=> .inl h,fun e he=>hI.rels.ok e (List.mem_append_left _ he),fun e he b hb=>⟨.inr ⟨e,he,hb⟩,(hI.rels.own e (List.mem_append_left _ he) b hb).2⟩,(List.pairwise_append.1 hI.rels.disj).1⟩ hA
   have hnext: ∀u W',QS ⟨W,a0E H,R,Γ.N⟩ o.dst (fun v H'=>AM P Γ.N ops Hs K r (a0q o.dst v E) H') .normal (A.put o.dst u) W'→wpAny P .any ops Q fuel (listed.setIfInBounds i true) (A.put o.dst u) W':=by
    rintro u W' ⟨hdf,v,H',R',ham,hsr,hvr⟩
    obtain⟨hrel,hRW⟩:=RelS.part hI.rels hsr
    have hpd: ∀k∈Pd,∀ok,ops[k]? =some ok→ ∀d,o.dst=some d→d∉ok.looksAt ops∧ok.dst≠some d:=fun k hk ok hok d hd=>by
     have h9:=(a0m (pre:=pre) (r:=(i,true)::r) (by rw[←hI.ord];exact hpairs)).2 _ (hI.pdp k hk) (i,true) (List.mem_cons_self ..)
     have hkf:listed.getD k false=false:=(hI.part k (Array.getElem?_eq_some_iff.1 hok).1).2 (.inl hk)
     have hno:k∉(c0P ops.toList []).getD i []:=fun hm=>by
      have:=hanc k hm
      rw[hkf]at this;cases this
     exact⟨fun hm=>hno ((b0J h9 hok ho).mn rfl d hd (.inl hm)),fun he=>hno ((b0J h9 hok ho).mn rfl d hd (.inr he))⟩
    have hnr:i∉r.map Prod.fst:=fun hm=>by
     obtain⟨⟨j,c⟩,hq,hji⟩:=List.mem_map.1 hm
     have h9:=(a0m (pre:=pre++[(i,true)]) (r:=r) (by have:=hI.ord;rw[List.append_assoc,List.singleton_append,←this];exact hpairs)).2 (i,true) (by simp) _ hq
     simp only at hji
     subst hji
     exact(b0J h9 ho ho).ne rfl
    have hnp:i∉Pd:=fun hk=>by
     have h9:=(a0m (pre:=pre) (r:=(i,true)::r) (by rw[←hI.ord];exact hpairs)).2 _ (hI.pdp i hk) (i,true) (List.mem_cons_self ..)
     exact(b0J h9 ho ho).ne rfl
    have hI':MJ P Γ ops Hs K ord late (listed.setIfInBounds i true) (A.put o.dst u) W' (pre++[(i,true)]) r Pd (a0q o.dst v E) H' R':=by
     refine⟨hsz,hcl,fun k hk=> ?_,by rw[hI.ord];simp,fun k hk=>List.mem_append_left _ (hI.pdp k hk),ham,fun k hk=> ?_,hrel,hdf,?_,fun t x ht hp=> ?_⟩
     ·by_cases hki:k=i
      ·subst hki
       rw[hgi]
       simp[hnr,hnp,hnl]
      ·rw[hgd k hki,hI.part k hk]
       simp[hki]
     ·obtain⟨ok,dk,vk,h1,h2,h3,h4,h5⟩:=hI.pend k hk
      refine⟨ok,dk,vk,h1,h2,h3,?_,?_⟩
      ·cases hd:o.dst with
       |none=>exact h4
       |some d=>rw[a0q,a0J (fun e=>(hpd k hk ok h1 d hd).2 (by rw[h2,e]))];exact h4
      ·cases hd:o.dst with
       |none=>exact h5
       |some d=>rw[a0q,b0e (hpd k hk ok h1 d hd).1];exact h5
     ·cases hd:o.dst<;>simp[Act.put,hI.tmps]
     ·cases hd:o.dst with
      |none=>
       rw[hd]at ht
       exact(hI.act t x ht hp).mono hsr.rsub hRW
      | some d=>
       rw[hd,a0q]at ht
       by_cases hdt:d=t
       ·subst hdt
        rw[b0n]at ht
        cases ht
        have:=hvr d hd
        rwa [hd]at this
       ·rw[a0J hdt]at ht
        rw[a0d hdt]
        exact(hI.act t x ht hp).mono hsr.rsub hRW
    obtain⟨pre',ms',Pd',E',hI2,hh2⟩:=hI'.absorb hpairs
    exact ih _ _ _ pre' ms' Pd' E' H' R' hcnt hI2 hh2
   unfold wpOp
   rw[ho]
   unfold wpList at hs
   show if Region.wanted o (yielded ops A.tmps)=true then _ else _
   split
   ·rename_i hw
    rw[if_pos hw]at hs
    refine .inl ?_
    rcases hs with hs|⟨-,a',w',hl⟩
    ·have hs2:o.wp P A W (wpList P ops (QS ⟨W,a0E H,R,Γ.N⟩ o.dst (fun v H'=>AM P Γ.N ops Hs K r (a0q o.dst v E) H')) []) NoQ:=by
      unfold Oper.wp at hs⊢
      revert hs
      cases(execOp A.eval o).run P W with
      | ok n w'=>
       cases n with
       |enter f args=>
        intro hs
        refine Calls.mono hs ?_
        intro e w'' he
        cases e with
        |returned v=>exact he
        |outgrown=>obtain⟨a',w',hl⟩:=he;exact hl.elim
        |_=>exact he.elim
       |_=>exact fun h=>h
      |halt x w'=>cases x<;>exact fun h=>h
     refine Oper.wp_mono ?_ (a0Z (Oper.wp_put hs2))
     rintro A' W' ⟨hq,hA'⟩
     have hq':QS ⟨W,a0E H,R,Γ.N⟩ o.dst (fun v H'=>AM P Γ.N ops Hs K r (a0q o.dst v E) H') .normal A' W':=hq
     rcases hA' with⟨u,rfl⟩|hnd
     ·exact hnext u W' hq'
     ·exact absurd hq'.1 hnd
    ·exact hl.elim
   ·rename_i hw
    rw[if_neg hw]at hs
    exact hnext _ _ hs
  ·exact absurd hlt' hnl
def AMS (P:Program)(N:Nat)(ops:Array Oper)(K:Env→List HE→Prop):List (List (Nat×Bool))→Env→List HE→Prop
 | [],E,H=>K E H
 |ord::r,E,H=> ∃Hm Hs,b0X E H Hm Hs∧AM P N ops Hs (fun E' H'=>AMS P N ops K r E' (H'++Hs)) ord E Hm
theorem AMS.go {ord:List (Nat×Bool)}{r:List (List (Nat×Bool))}{E:Env}{H Hm Hs:List HE}(hH:b0X E H Hm Hs)(h:AM P N ops Hs (fun E' H'=>AMS P N ops K r E' (H'++Hs)) ord E Hm):AMS P N ops K (ord::r) E H:=⟨Hm,Hs,hH,h⟩
theorem vf {ord:List (Nat×Bool)}{r:List (List (Nat×Bool))}{E:Env}{H Hm Hs:List HE}(h:AM P N ops Hs (fun E' H'=>AMS P N ops K r E' (H'++Hs)) ord E Hm)(hH:b0X E H Hm Hs:=by exact(a0s 0 rfl (a0s 0 rfl a0g))):AMS P N ops K (ord::r) E H:=AMS.go hH h
theorem vL {ord:List (Nat×Bool)}{r:List (List (Nat×Bool))}{E:Env}{H Hm Hs:List HE}(h:AM P N ops Hs (fun E' H'=>AMS P N ops K r E' (H'++Hs)) ord E Hm)(hH:b0X E H Hm Hs:=by exact a0g):AMS P N ops K (ord::r) E H:=AMS.go hH h
theorem AMS.nil {E:Env}{H:List HE}(h:K E H):AMS P N ops K [] E H:=h
def f0B (ops:Array Oper)(an:List (List Nat)):List (List (Nat×Bool))→Bool
 | []=>true
 |ord::r=>b0f ops an ord&&(ord.all fun q=>decide (q.1<ops.size))&&(r.all fun s=>s.all fun j=>ord.all fun q=>(an.getD j.1 []).contains q.1)&&f0B ops an r
def f0Z (ops:Array Oper)(os:List (List (Nat×Bool))):Bool:=
 ((List.range ops.size).all fun i=>os.any fun ord=>ord.any fun q=>q.1==i)&&
 ((List.range ops.size).all fun i=>(ops[i]?).all fun o=>o.after.all fun e=> !Region.binds .any e||decide (e.on<i))&&f0B ops (c0P ops.toList []) os
theorem AMS.run {Q:Exit→Act→World→Prop}(hback: ∀i o,ops[i]? =some o→ ∀e∈o.after,Region.binds .any e=true→e.on<i): ∀(os:List (List (Nat×Bool))),f0B ops (c0P ops.toList []) os=true→
  ∀(listed:Array Bool) (A:Act) (W:World) (E:Env) (H:List HE) (R:Nat→Prop),listed.size=ops.size→c0O ops listed→(∀i,i<ops.size→(listed.getD i false=false↔i∈(os.flatten).map Prod.fst))→RelS Γ R H W→RelA Γ.N R W E A→
   AMS P Γ.N ops (fun E' H'=>AQ Γ Q .normal E' H') os E H→wpAny P .any ops Q (listed.toList.count false) listed A W
 | [],_,listed,A,W,E,H,R,hsz,hcl,hpt,hs,ha,h=>by
  have hlist: ∀i,i<ops.size→listed.getD i false=true:=by
   intro i hi
   cases hb:listed.getD i false with
   |true=>rfl
   |false=>have:=(hpt i hi).1 hb;cases this
  have h0:listed.toList.count false=0:=by
   rw[List.count_eq_zero]
   intro hm
   obtain⟨i,hi,hf⟩:=List.getElem_of_mem hm
   have hi':i<listed.size:=by simpa using hi
   have:=hlist i (by rw[←hsz];exact hi')
   rw[show listed.getD i false=listed[i] by simp[Array.getD,hi']]at this
   rw[show listed.toList[i]=listed[i] by simp,this]at hf
   cases hf
  rw[h0]
  refine⟨?_,h R A W hs ha⟩
  rw[List.eq_nil_iff_forall_not_mem]
  intro i hi
  obtain⟨h0,o,ho,_⟩:=mem_ready.1 hi
  have hi':i<ops.size:=(Array.getElem?_eq_some_iff.1 ho).1
  have:=hlist i hi'
  rw[←b0a (by rw[hsz];exact hi')]at this
  rw[this]at h0;cases h0
 | ord::os,hok,listed,A,W,E,H,R,hsz,hcl,hpt,hs,ha,h=>by
  rw[f0B]at hok
  simp only[Bool.and_eq_true,List.all_eq_true,cQ,List.contains_eq_mem]at hok
  obtain⟨⟨⟨hp,hlt⟩,hlate⟩,hrest⟩:=hok
  obtain⟨Hm,Hs,hH,hAM⟩:=h
  have hI:MJ P Γ ops Hs (fun E' H'=>AMS P Γ.N ops (fun E' H'=>AQ Γ Q .normal E' H') os E' (H'++Hs)) ord (os.flatten.map Prod.fst) listed A W [] ord [] E Hm R:=by
   refine⟨hsz,hcl,fun i hi=> ?_,rfl,fun i hi=>(by cases hi),hAM,fun i hi=>(by cases hi),hs.perm hH.symm,ha.defers,ha.size,fun t v ht _=>ha.slots t v ht⟩
   rw[hpt i hi]
   simp
  obtain⟨pre',ms',Pd',E',hI2,hh2⟩:=hI.absorb hp
  refine MJ.stage hback hp hlt (fun j hj q hq=> ?_) (fun listed A W E H R h1 h2 h3 h4 h5 h6=>AMS.run hback os hrest listed A W E _ R h1 h2 h3 h4 h5 h6) _ listed A W pre' ms' Pd' E' Hm R rfl hI2 hh2
  obtain⟨x,hx,rfl⟩:=List.mem_map.1 hj
  obtain⟨s,hs1,hs2⟩:=List.mem_flatten.1 hx
  exact hlate s hs1 x hs2 q hq
theorem AW.regionS {Q:Exit→Act→World→Prop}{E:Env}{H:List HE}{id:Nat}{l:List Oper}(os:List (List (Nat×Bool)))(hm:P.follows .mixedOrders=true)(hok:f0Z l.toArray os=true)
  (h:AMS P Γ.N l.toArray (fun E' H'=>AQ Γ Q .normal E' H') os E H):AW Γ P Q (.region id l.toArray true) E H:=fun R a W hs0 ha0=>by
 obtain⟨ops,hops⟩: ∃ops,ops=l.toArray:=⟨_,rfl⟩
 rw[←hops]at h hok
 simp only[f0Z,Bool.and_eq_true,List.all_eq_true,List.mem_range]at hok
 obtain⟨⟨hall,hbk⟩,hst⟩:=hok
 have hback: ∀i o,ops[i]? =some o→ ∀e∈o.after,Region.binds .any e=true→e.on<i:=fun i o ho e he hb=>by
  have hi:i<ops.size:=(Array.getElem?_eq_some_iff.1 ho).1
  have:=hbk i hi
  rw[ho]at this
  simp only[Option.all_some]at this
  have:=Array.all_eq_true_iff_forall_mem.1 this e he
  simpa[hb]using this
 have hs:RelS Γ R H W.drew:=⟨hs0.mods.drew,hs0.rlt,hs0.rsub,hs0.rnew,fun e he=>HE.ok_mono (W:=W) (W':=W.drew) (fun _ h=>h) (fun _ _=>rfl) (Nat.le_refl _) (fun _ _=>rfl) (hs0.ok e he),hs0.own,hs0.disj⟩
 have ha:RelA Γ.N R W.drew E a:=ha0.mono (fun _ h=>h) (fun _ _=>rfl)
 refine wp_region_any hm ?_
 rw[←hops]
 have hc:(Array.replicate ops.size false).toList.count false=ops.size:=by simp
 have:=AMS.run (Γ:=Γ) hback os hst (Array.replicate ops.size false) a W.drew E H R (by simp) (fun i o hl=>by
  exfalso
  by_cases h:i<ops.size<;>simp[Array.getD,h]at hl) (fun i hi=>by
   have:=hall i hi
   simp only[List.any_eq_true,beq_iff_eq]at this
   obtain⟨ord,ho,q,hq,hqi⟩:=this
   constructor
   ·intro _
    exact List.mem_map.2 ⟨q,List.mem_flatten.2 ⟨ord,ho,hq⟩,hqi⟩
   ·intro _
    simp[Array.getD,hi]) hs ha h
 rw[hc]at this
 exact this
theorem vo {Q:Exit→Act→World→Prop}{E:Env}{H:List HE}{id:Nat}{l:List Oper}(os:List (List (Nat×Bool)))(h:AMS P Γ.N l.toArray (fun E' H'=>AQ Γ Q .normal E' H') os E H)(hm:P.follows .mixedOrders=true:=by kernel_rfl)(hok:f0Z l.toArray os=true:=by kernel_rfl):AW Γ P Q (.region id l.toArray true) E H:=AW.regionS os hm hok h
end
section
variable {Γ:Cx}{P:Program}{ops:Array Oper}{Q:Exit→Act→World→Prop}{E:Env}{H:List HE}{o:Oper}{rest:List Oper}
theorem k0B {W:World}{b k:Nat}{cs:Array Value}{U:TypeId}(hb:W.heap[b]? =some (.cells cs U (0,0))):
  (W.freeze ⟨b,k,none⟩ 1).heap[b]? =some (.cells cs U (k,k+1))∧(∀q,q≠b→(W.freeze ⟨b,k,none⟩ 1).heap[q]? =W.heap[q]?)∧(W.freeze ⟨b,k,none⟩ 1).heap.size=W.heap.size:=by
 obtain⟨hlt,he⟩:=Array.getElem?_eq_some_iff.1 hb
 unfold World.freeze
 rw[if_neg (by decide)]
 refine⟨?_,fun q hq=> ?_,by simp⟩
 ·simp[Array.getElem?_modify,hb]
 ·simp[Array.getElem?_modify,Ne.symm hq]
theorem AO.constBytes {T U d i b room c n:Nat}{x:Operand}{xs:List AV}{l:List UInt8}[hT:TyD P T (.slice U)][hU:TyD P U (.int .u8)](ho:o.op= .convert T T x)(hgd:o.guard=none)(hd:o.dst=some d)(hN:d<Γ.N)
  (hx:ev E x=some (.val (.slice (some ⟨b,0,none⟩) n c))) (hi:H[i]? =some (.blk b U room xs)) (hl:xs=a0a l) (hn:n=l.length) (hc:n≤c∧c≤maxLen) (next:AO Γ P ops Q rest ((d,roB l)::E) (H.eraseIdx i)):AO Γ P ops Q (o::rest) E H:=fun R a W hs ha=>by
 have hmem:=List.mem_of_getElem? hi
 obtain⟨hlt,he⟩:=List.getElem?_eq_some_iff.1 hi
 obtain⟨us,cs,hb,hsz,ht,hr⟩:=hs.ok _ hmem
 obtain⟨f1,f2,f3⟩:=k0B (k:=cs.size) hb
 have hsh:W.shape? b=some (U,cs.size):=by unfold World.shape?;rw[hb]
 have hrun:(execOp a.eval o).run P W= .ok (.value (.slice (some ⟨b,0,none⟩) n c)) (W.freeze ⟨b,cs.size,none⟩ 1):=by
  simp[execOp,ho,(ha.ev hx).val_inv,convert,run_underlying hT.ax,run_underlying hU.ax,markStringish,hsh]
 have hbR: ¬R b:=(hs.own _ hmem b rfl).2
 have hm:Mods (fun q=>q=b) W (W.freeze ⟨b,cs.size,none⟩ 1):=⟨by unfold World.freeze;rw[if_neg (by decide)],by unfold World.freeze;rw[if_neg (by decide)],by unfold World.freeze;rw[if_neg (by decide)],by rw[f3];exact Nat.le_refl _,fun q hq hqb=>f2 q hqb⟩
 have hW: ∀q,R q→(W.freeze ⟨b,cs.size,none⟩ 1).heap[q]? =W.heap[q]? :=fun q hq=>f2 q fun e=>hbR (e▸hq)
 have hRS: ∀q,R q→R q∨q=b:=fun q h=> .inl h
 have hsub:(H.eraseIdx i).Sublist H:=List.eraseIdx_sublist _ _
 have hdis: ∀f∈H.eraseIdx i,∀q,f.foot q→q≠b:=fun f hf q hq hqb=>by
  obtain⟨j,hj,rfl⟩:=List.getElem_of_mem hf
  rw[List.getElem_eraseIdx]at hq
  rw[List.length_eraseIdx,if_pos hlt]at hj
  split at hq
  ·exact(List.pairwise_iff_getElem.1 hs.disj j i (by omega) hlt (by omega)) q hq (by rw[he];exact hqb)
  ·exact(List.pairwise_iff_getElem.1 hs.disj i (j+1) hlt (by omega) (by omega)) q (by rw[he];exact hqb) hq
 unfold wpList
 rw[if_pos (by unfold Region.wanted;rw[hgd])]
 refine .inl ?_
 unfold Oper.wp
 rw[hrun]
 show wpList P ops Q rest (a.put o.dst _) _
 rw[hd]
 refine next (fun q=>R q∨q=b) _ _ ⟨Mods.then hs.mods hm fun q hq hqb=> ?_,?_,fun q hq=> .inl (hs.rsub q hq),?_,fun e he=>HE.ok_mono hRS hW (by rw[f3];exact Nat.le_refl _) (fun q hq=>f2 q (hdis e he q hq)) (hs.ok e (hsub.subset he)),?_,hs.disj.sublist hsub⟩ ((ha.mono hRS hW).put hN ?_)
 ·rcases(hs.own _ hmem b rfl).1 with h|h
  ·omega
  ·rw[hqb];exact h
 ·rintro q (hq|hq)
  ·rw[f3];exact hs.rlt q hq
  ·rw[f3,hq];exact(Array.getElem?_eq_some_iff.1 hb).1
 ·rintro q (hq|hq)
  ·exact hs.rnew q hq
  ·exact .inr (hq▸(hs.own _ hmem b rfl).1)
 ·intro e he q hq
  refine⟨(hs.own e (hsub.subset he) q hq).1,?_⟩
  rintro(h|h)
  ·exact(hs.own e (hsub.subset he) q hq).2 h
  ·exact hdis e he q hq h
 ·subst hl;subst hn
  have hlen:us.length=l.length:=by rw[hr.1];simp[a0a]
  unfold roB
  refine .ro false l.length (a0a l) b 0 c (fun j=>us.getD j undef) (.inr rfl) (fun j hj=> ?_) (fun j hj=>(hr.mono hRS hW).2 j hj) hc.1 hc.2 (fun h=>by cases h)
  have hj':j<us.length:=by rw[hlen];simpa[a0a]using hj
  have h9:us[j]? =cs[j]? :=by
   rw[←ht,List.getElem?_take,if_pos (by simpa[a0a]using hj)];simp
  simp only[World.cell?,f1,Nat.zero_add]
  have h10:cs[j]? =some us[j]:=by rw[←h9];simp[hj']
  simpa[hj']using h10
end
section
variable {P:Program}{E:Env}{H:List HE}{N:Nat}{o:Oper}
theorem n0w (n:Nat):a0x n (.int .u8 0)=a0a (List.replicate n 0):=by
 rw[a0x,show(Value.int IntKind.u8 0).cells.toList.map AV.val= [AV.val (.int .u8 0)]from rfl,List.flatten_replicate_singleton]
 simp[a0a]
end
section
variable {Γ:Cx}{P:Program}{Q:Exit→Act→World→Prop}{E:Env}{H:List HE}{N:Nat}{o:Oper}{ops:Array Oper}{rest:List Oper}
theorem CoeL.app {a b x y:List AV}(h:CoeL a b)(k:CoeL x y):CoeL (a++x) (b++y):=fun R W us hu=>by
 induction a generalizing b us with
 | nil=>
  have hb:b= []:=by
   have:=(h R W [] RelL.nil).1
   exact List.eq_nil_of_length_eq_zero this.symm
  subst hb
  exact k R W us hu
 |cons u a ih=>
  have h1:us.take (a.length+1)++us.drop (a.length+1)=us:=List.take_append_drop ..
  have h2:=hu.take (a.length+1)
  have h3:=hu.drop (a.length+1)
  rw[show((u::a)++x).take (a.length+1)=u::a by simp]at h2
  rw[show((u::a)++x).drop (a.length+1)=x by simp]at h3
  rw[←h1]
  exact RelL.app (h R W _ h2) (k R W _ h3)
theorem Coe.ro {full:Bool}{n:Nat}{xs ys:List AV}(h:CoeL xs ys):Coe (.ro full n xs) (.ro full n ys):=fun R W u hu=>by
 cases hu with
 |emp _ a cap h1 h2=>
  have hy:ys= []:=List.eq_nil_of_length_eq_zero (h R W [] RelL.nil).1.symm
  subst hy
  exact .emp _ a cap h1 h2
 |ro _ _ _ b off cap us hb hc hr h1 h2 h3=>
  have hl:RelL R W xs ((List.range xs.length).map us):=⟨by simp,fun j hj=>by simpa[hj]using hr j hj⟩
  have hk:=h R W _ hl
  have he:ys.length=xs.length:=by have:=hk.1;simpa using this.symm
  refine .ro _ _ _ b off cap us hb (fun j hj=>hc j (by omega)) (fun j hj=> ?_) h1 h2 h3
  have:=hk.2 j hj
  rw[he]at hj
  simpa[hj]using this
theorem G.coeRow {X:Act→World→Prop}(i:Nat){v:Value}{T sz n:Nat}{xs:List AV}(m:Nat)(ys:List AV)(hi:H[i]? =some (.row v T sz n xs))(hm:n=m)(h:CoeL xs ys)(k:G Γ E (H.set i (.row v T sz m ys)) X):G Γ E H X:=fun R a W hs ha=>by
 subst hm
 obtain⟨us,h1,h2⟩:=hs.ok _ (List.mem_of_getElem? hi)
 exact k R a W (hs.setSame hi (fun b hb=>hb) ⟨us,h1,h R W us h2⟩) ha
theorem O.sliceN {T:Nat}{x:Operand}{low high:Option Operand}{l h:Int}{U sz bs:Nat}{zz:Value}[hs:TyS P T U sz bs zz](ho:o.op= .slice T x low high none)(hx:ev E x=some (.val (.slice none 0 0)))(hl:d0e E low 0=some l)(hh:d0e E high 0=some h)(h0:0≤l∧l≤h∧h≤0):
  OpW P N o E H (Is (.val (.slice none 0 0))):= .of_run fun R a W h1 h2 ha=>by
 obtain⟨i,hi,hi2, -⟩:=hs.el
 have hb:=b0U (P:=P) (W:=W) (cap:=0) ha hl hh h0
 have e1:l=0:=by omega
 have e2:h=0:=by omega
 subst e1
 subst e2
 refine⟨.slice none 0 0,?_,.val _⟩
 simp only[execOp,ho,(ha.ev hx).val_inv,Instr.sliceAt,Instr.slice,run_underlying hs.ty,Sem.run_bind,Result.andThen_ok,hb,sizeOf,typeInfo,hi,hi2,run_program,Sem.run_pure,Option.map_none]
 simp
def u0u (k:Nat):Nat→List (Nat×AV)→Option (List AV)
 |_,[]=>some []
 |i,(j,v)::r=>bif Nat.beq j i&&Nat.beq v.cells.length k then(match u0u k (i+1) r with|some ys=>some (v.cells++ys)|none=>none)else none
theorem h0e: ∀(cs pre zs:List AV),cs.length≤zs.length→a0e (pre++zs) pre.length cs=pre++cs++zs.drop cs.length
 | [],pre,zs,h=>by simp[a0e]
 |c::cs,pre,[],h=>by simp at h
 |c::cs,pre,z::zs,h=>by
  rw[a0e,show(pre++z::zs).set pre.length c=(pre++[c])++zs by simp,show pre.length+1=(pre++[c]).length by simp,h0e cs (pre++[c]) zs (by simpa using h)]
  simp
theorem l0V {k:Nat}: ∀(ps:List (Nat×AV)) (i:Nat) (pre zs ys:List AV),u0u k i ps=some ys→pre.length=i*k→zs.length=ps.length*k→d0T (fun i=>some (i*k,k)) (pre++zs) ps=some (pre++ys)
 | [],i,pre,zs,ys,h,h1,h2=>by
  have:zs= []:=List.eq_nil_of_length_eq_zero (by simpa using h2)
  subst this
  cases h
  rfl
 | (j,v)::r,i,pre,zs,ys,h,h1,h2=>by
  rw[u0u]at h
  cases hc:(Nat.beq j i&&Nat.beq v.cells.length k)with
  |false=>rw[hc]at h;cases h
  | true=>
   rw[hc]at h
   simp only[Bool.and_eq_true]at hc
   have hj:=Nat.eq_of_beq_eq_true hc.1
   have hk:=Nat.eq_of_beq_eq_true hc.2
   subst hj
   cases hr:u0u k (j+1) r with
   |none=>rw[hr]at h;cases h
   | some ys'=>
    rw[hr]at h
    cases h
    have hz:v.cells.length≤zs.length:=by rw[h2,hk,cL,Nat.add_mul];omega
    unfold d0T
    simp only
    have hb:(Nat.beq v.cells.length k&&Nat.ble (j*k+v.cells.length) (pre++zs).length)=true:=by
     simp only[Bool.and_eq_true]
     exact⟨hc.2,Nat.ble_eq_true_of_le (by rw[cH,h1];omega)⟩
    rw[hb]
    show d0T _ (a0e (pre++zs) (j*k) v.cells) r=_
    rw[←h1,h0e _ _ _ hz]
    have:=l0V r (j+1) (pre++v.cells) (zs.drop v.cells.length) ys' hr (by rw[cH,h1,hk,Nat.add_mul];omega) (by rw[List.length_drop,h2,hk,cL,Nat.add_mul];omega)
    rw[this,List.append_assoc]
theorem O.buildSliceF {T U k bs n:Nat}{z:Value}{parts:List (Nat×Operand)}{ps:List (Nat×AV)}{ys:List AV}[hs:TyS P T U k bs z](ho:o.op= .buildSlice T n parts.toArray)(hx:evp E parts=some ps)(h1:f0W ps=true)
  (hsm:Nat.ble (n*k) 16777216=true) (hpos:Nat.ble 1 (n*k)=true) (hzk:Nat.beq z.cells.size k=true) (hn:Nat.beq ps.length n=true) (hy:u0u k 0 ps=some ys):OpW P N o E H (b0j (fun b=> .val (.slice (some ⟨b,0,none⟩) n n)) U (n*k) ys):=
 O.buildSlice ho hx h1 hsm hpos hzk (by
  have:=l0V ps 0 [] (a0x n z) ys hy (by simp) (by
   have hzl:(z.cells.toList.map AV.val).length=k:=by rw[List.length_map,Array.length_toList];exact Nat.eq_of_beq_eq_true hzk
   rw[Nat.eq_of_beq_eq_true hn,a0x,List.length_flatten,List.map_replicate,hzl];simp)
  simpa using this)
theorem xO {T U k bs n:Nat}{z:Value}{parts:List (Nat×Operand)}{ps:List (Nat×AV)}{ys:List AV}(ho:o.op= .buildSlice T n parts.toArray:=by exact rfl)(hs:TyS P T U k bs z:=by infer_instance)(hx:evp E parts=some ps:=by exact rfl)(h1:f0W ps=true:=by exact rfl)(hsm:Nat.ble (n*k) 16777216=true:=by rfl)(hpos:Nat.ble 1 (n*k)=true:=by rfl)(hzk:Nat.beq z.cells.size k=true:=by rfl)(hn:Nat.beq ps.length n=true:=by rfl)(hy:u0u k 0 ps=some ys:=by rfl):OpW P N o E H (b0j (fun b=> .val (.slice (some ⟨b,0,none⟩) n n)) U (n*k) ys):=O.buildSliceF ho hx h1 hsm hpos hzk hn hy
theorem OpW.frzR {U k n:Nat}{ys:List AV}(h:OpW P N o E H (b0p U k n ys)):OpW P N o E H (Is (.ro false n ys)):=fun R a W h1 h2 h3 h4=>by
 refine Oper.wp_mono ?_ (h R a W h1 h2 h3 h4)
 rintro A' W' ⟨u,v,Hn,R',rfl,⟨v0,rfl,hv0,rfl⟩,p⟩
 obtain⟨hok,hfo⟩:=p.ok _ (List.mem_cons_self ..)
 have hu:=p.val.val_inv
 subst hu
 have hok':=hok
 obtain⟨us,hown,hr⟩:=hok
 refine⟨_,.ro false n ys,[],fun c=>R' c∨(HE.row u U k n ys).foot c,rfl,⟨rfl,rfl⟩,p.ext,fun c hc=> .inl (p.sub c hc),fun c hc=> ?_,?_,fun _ he=>(by cases he),.nil⟩
 ·rcases hc with hc|hc
  ·exact p.new c hc
  ·exact .inr ⟨(hfo _ hc).1,HE.ok_lt hok' hc⟩
 ·have hr':=hr.mono (R':=fun c=>R' c∨(HE.row u U k n ys).foot c) (fun _ h=> .inl h) (W':=W') (fun _ _=>rfl)
  rcases hown.2 with⟨rfl,rfl⟩|⟨g,cap,cur,rfl,hbg,hg,h1,h2,h3,h4⟩
  ·have:ys= []:=List.eq_nil_of_length_eq_zero (by rw[←hr.1,hown.1];simp)
   subst this
   exact .emp _ _ _ (fun h=>by cases h) (Nat.zero_le _)
  ·refine .ro false n ys g 0 cap (fun j=>us.getD j undef) (.inr rfl) (fun j hj=> ?_) (fun j hj=>hr'.2 j hj) h1 h2 (fun h=>by cases h)
   have hj':j<us.length:=by rw[hr.1];exact hj
   have:=hown.cells (g:=g) rfl j us[j] (by simp[hj'])
   rw[a0N]at this
   rw[this]
   simp[List.getD,hj']
theorem xL {U k n:Nat}{ys:List AV}(h:OpW P N o E H (b0p U k n ys):=by exact(O.appendNil rfl (by rfl) (by rfl) rfl rfl (by exact SrcA.ro TyD.ax (by(simp;done)) (lB rfl)) (by(simp[AV.cells,AV.one, *];done)) (by(unfold maxLen;omega)) (by omega))):OpW P N o E H (Is (.ro false n ys)):=OpW.frzR h
def o0k (tmps:Array Value):ResultVar→Sem Value
 | .tmp t=>pure (tmps.getD t undef)
 | .cell a t=>do loadVar t (←asAddr (tmps.getD a undef))
theorem e0V (fn:Func)(tmps:Array Value):results fn tmps=(do
  let vs←fn.results.mapM (o0k tmps)
  pure (if h:vs.size=1 then vs[0]else .tuple vs)):=by
 unfold results
 congr 1
def ResAt (Γ:Cx)(P:Program)(E:Env)(H:List HE)(x:ResultVar)(q:AV):Prop:=
 ∀R a W,RelS Γ R H W→RelA Γ.N R W E a→ ∃u,(o0k a.tmps x).run P W= .ok u W∧RelV R W q u
theorem ResAt.tmp {t:Nat}{q:AV}(h:a0r E t=some q):ResAt Γ P E H (.tmp t) q:=fun R a W hs ha=>⟨a.eval (.tmp t),rfl,ha.slots t q h⟩
theorem ResAt.cell {t T k b T' room:Nat}{xs ys:List AV}[hg:TyG P T true k](ht:a0r E t=some (.val (.pointer (some ⟨b,0,none⟩))))(hm:HE.blk b T' room xs∈H)(hv:xs.take k=ys)(hk:ys.length=k):ResAt Γ P E H (.cell t T) (.agg ys):=fun R a W hs ha=>by
 obtain⟨us,cs,hb,hsz,hts,hrl⟩:=hs.ok _ hm
 have hrl:=hrl.take k
 rw[hv]at hrl
 have hl:=b0O hg W b 0 (us.take k) (by rw[hrl.1,hk]) (fun i u hi=>by
  rw[cell_of_row W b (0+i) cs T' (0,0) hb]
  rw[List.getElem?_take]at hi
  split at hi
  ·rw[←hts,List.getElem?_take]at hi
   split at hi
   ·simpa using hi
   ·cases hi
  ·cases hi)
 have hv':=(ha.slots t _ ht).val_inv
 refine⟨.agg (us.take k).toArray,?_,hrl.toAgg⟩
 have:a.tmps.getD t undef= .pointer (some ⟨b,0,none⟩):=hv'
 simp[o0k,this,asAddr,hl]
theorem AQ.ret3G {fn:Func}{Post:AV→List HE→Prop}{x y z:ResultVar}{p q r:AV}{H':List HE}(hr:fn.results= #[x,y,z])(h1:ResAt Γ P E H x p)(h2:ResAt Γ P E H y q)(h3:ResAt Γ P E H z r)
  (hH: ∃H1,H1.Sublist H∧H'.Perm H1) (hp:Post (.tup [p,q,r]) H'):AQ Γ (FnQ Γ P fn Post) .ret E H:=fun R a W hs ha=>by
 obtain⟨H1,k1,k2⟩:=hH
 obtain⟨u1,e1,g1⟩:=h1 R a W hs ha
 obtain⟨u2,e2,g2⟩:=h2 R a W hs ha
 obtain⟨u3,e3,g3⟩:=h3 R a W hs ha
 refine⟨ha.defers,.tuple #[u1,u2,u3],?_,_,_,H',R,rfl,hp,?_,RelL.toTup (us:= [u1,u2,u3]) (RelL.cons g1 (RelL.cons g2 (RelL.cons g3 RelL.nil)))⟩
 ·rw[e0V,hr]
  simp[e1,e2,e3]
 ·have:=(hs.sub k1).perm k2
  exact⟨this.mods,this.rlt,this.rsub,this.rnew,this.ok,this.own,this.disj⟩
theorem z6 {fn:Func}{Post:AV→List HE→Prop}{x y z:ResultVar}{p q r:AV}{H':List HE}(hr:fn.results= #[x,y,z]:=by exact rfl)(h1:ResAt Γ P E H x p:=by exact ResAt.cell rfl (by repeat(exact List.Mem.head _)) (by(dsimp only[List.set,cA,cN,List.take,List.drop];done)) (by rfl))(h2:ResAt Γ P E H y q:=by exact ResAt.cell rfl mM (by(dsimp only[List.set,cA,cN,List.take,List.drop];done)) (by rfl))(h3:ResAt Γ P E H z r:=by exact ResAt.tmp rfl)(hH: ∃H1,H1.Sublist H∧H'.Perm H1:=by exact nS)(hp:Post (.tup [p,q,r]) H':=by exact⟨rfl,rfl⟩):AQ Γ (FnQ Γ P fn Post) .ret E H:=AQ.ret3G hr h1 h2 h3 hH hp
theorem yL {fn:Func}{Post:AV→List HE→Prop}{x y z:ResultVar}{p q r:AV}{H':List HE}(hr:fn.results= #[x,y,z]:=by exact rfl)(h1:ResAt Γ P E H x p:=by exact ResAt.cell rfl mM (by(dsimp only[List.set,cA,cN,List.take,List.drop];done)) (by rfl))(h2:ResAt Γ P E H y q:=by exact ResAt.cell rfl (by repeat(exact List.Mem.head _)) (by(dsimp only[List.set,cA,cN,List.take,List.drop];done)) (by rfl))(h3:ResAt Γ P E H z r:=by exact ResAt.tmp rfl)(hH: ∃H1,H1.Sublist H∧H'.Perm H1:=by exact nS)(hp:Post (.tup [p,q,r]) H':=by exact⟨rfl,rfl⟩):AQ Γ (FnQ Γ P fn Post) .ret E H:=AQ.ret3G hr h1 h2 h3 hH hp
theorem y5 {fn:Func}{Post:AV→List HE→Prop}{x y z:ResultVar}{p q r:AV}{H':List HE}(hr:fn.results= #[x,y,z]:=by exact rfl)(h1:ResAt Γ P E H x p:=by exact ResAt.cell rfl mM (by(dsimp only[List.set,cA,cN,List.take,List.drop];done)) (by rfl))(h2:ResAt Γ P E H y q:=by exact ResAt.cell rfl mM (by(dsimp only[List.set,cA,cN,List.take,List.drop];done)) (by rfl))(h3:ResAt Γ P E H z r:=by exact ResAt.tmp rfl)(hH: ∃H1,H1.Sublist H∧H'.Perm H1:=by exact nS)(hp:Post (.tup [p,q,r]) H':=by exact⟨rfl,rfl⟩):AQ Γ (FnQ Γ P fn Post) .ret E H:=AQ.ret3G hr h1 h2 h3 hH hp
theorem AQ.ret4G {fn:Func}{Post:AV→List HE→Prop}{x y z w:ResultVar}{p q r s:AV}{H':List HE}(hr:fn.results= #[x,y,z,w])(h1:ResAt Γ P E H x p)(h2:ResAt Γ P E H y q)(h3:ResAt Γ P E H z r)(h4:ResAt Γ P E H w s)
  (hH: ∃H1,H1.Sublist H∧H'.Perm H1) (hp:Post (.tup [p,q,r,s]) H'):AQ Γ (FnQ Γ P fn Post) .ret E H:=fun R a W hs ha=>by
 obtain⟨H1,k1,k2⟩:=hH
 obtain⟨u1,e1,g1⟩:=h1 R a W hs ha
 obtain⟨u2,e2,g2⟩:=h2 R a W hs ha
 obtain⟨u3,e3,g3⟩:=h3 R a W hs ha
 obtain⟨u4,e4,g4⟩:=h4 R a W hs ha
 refine⟨ha.defers,.tuple #[u1,u2,u3,u4],?_,_,_,H',R,rfl,hp,?_,RelL.toTup (us:= [u1,u2,u3,u4]) (RelL.cons g1 (RelL.cons g2 (RelL.cons g3 (RelL.cons g4 RelL.nil))))⟩
 ·rw[e0V,hr]
  simp[e1,e2,e3,e4]
 ·have:=(hs.sub k1).perm k2
  exact⟨this.mods,this.rlt,this.rsub,this.rnew,this.ok,this.own,this.disj⟩
theorem zE {fn:Func}{Post:AV→List HE→Prop}{x y z w:ResultVar}{p q r s:AV}{H':List HE}(hr:fn.results= #[x,y,z,w]:=by exact rfl)(h1:ResAt Γ P E H x p:=by exact ResAt.cell rfl mM (by(dsimp only[List.set,cA,cN,List.take,List.drop];done)) (by rfl))(h2:ResAt Γ P E H y q:=by exact ResAt.cell rfl mM (by(dsimp only[List.set,cA,cN,List.take,List.drop];done)) (by rfl))(h3:ResAt Γ P E H z r:=by exact ResAt.cell rfl (by repeat(exact List.Mem.head _)) (by(dsimp only[List.set,cA,cN,List.take,List.drop];done)) (by rfl))(h4:ResAt Γ P E H w s:=by exact ResAt.tmp rfl)(hH: ∃H1,H1.Sublist H∧H'.Perm H1:=by exact nS)(hp:Post (.tup [p,q,r,s]) H':=by exact⟨rfl,rfl⟩):AQ Γ (FnQ Γ P fn Post) .ret E H:=AQ.ret4G hr h1 h2 h3 h4 hH hp
theorem yr {fn:Func}{Post:AV→List HE→Prop}{x y z w:ResultVar}{p q r s:AV}{H':List HE}(hr:fn.results= #[x,y,z,w]:=by exact rfl)(h1:ResAt Γ P E H x p:=by exact ResAt.cell rfl mM (by(dsimp only[List.set,cA,cN,List.take,List.drop];done)) (by rfl))(h2:ResAt Γ P E H y q:=by exact ResAt.cell rfl mM (by(dsimp only[List.set,cA,cN,List.take,List.drop];done)) (by rfl))(h3:ResAt Γ P E H z r:=by exact ResAt.cell rfl mM (by(dsimp only[List.set,cA,cN,List.take,List.drop];done)) (by rfl))(h4:ResAt Γ P E H w s:=by exact ResAt.tmp rfl)(hH: ∃H1,H1.Sublist H∧H'.Perm H1:=by exact nS)(hp:Post (.tup [p,q,r,s]) H':=by exact⟨rfl,rfl⟩):AQ Γ (FnQ Γ P fn Post) .ret E H:=AQ.ret4G hr h1 h2 h3 h4 hH hp
end
section
variable {P:Program}{ops:Array Oper}{N:Nat}
structure Al where
 (i d T room:Nat) (xs:List AV)
def Al.ok (P:Program)(N:Nat)(ops:Array Oper)(al:Al):Prop:=
 ∃o,ops[al.i]? =some o∧o.dst=some al.d∧al.d<N∧o.guard=none∧OpW P N o [] [] (b0j (fun b=> .val (.pointer (some ⟨b,0,none⟩))) al.T al.room al.xs)
def Al.he (al:Al)(b:Nat):HE:= .blk b al.T al.room al.xs
def Al.hs (al:Al):Option Nat→List HE
 |none=> []
 |some b=> [al.he b]
def AN (P:Program)(N:Nat)(ops:Array Oper)(al:Al)(Hs:List HE)(K:Env→List HE→Prop):List (Nat×Bool)→Env→List HE→Prop
 | [],E,H=>K E H
 |(i,true)::r,E,H=>if i=al.i then(∀b,AN P N ops al Hs K r ((al.d,.val (.pointer (some ⟨b,0,none⟩)))::E) (al.he b::H))else∃o,ops[i]? =some o∧ ∀w0 R0,AO ⟨w0,a0E H,R0,N⟩ P ops (QS ⟨w0,a0E H,R0,N⟩ o.dst (fun v H'=>AN P N ops al Hs K r (a0q o.dst v E) H')) [o] (rst E (o.looksAt ops)) H
 |(i,false)::r,E,H=> ∃o d v,ops[i]? =some o∧o.dst=some d∧d<N∧OpF P N ops o (rst E (o.looksAt ops)) Hs (Is v)∧AN P N ops al Hs K r ((d,v)::E) H
def d0I (ops:Array Oper)(ia:Nat)(an:List (List Nat))(i:Nat)(b:Bool)(j:Nat)(c:Bool):Bool:=
 match ops[i]?,ops[j]?with
 | some oi,some oj=>
  let waits:=oj.after.any fun e=>Region.binds .any e&&e.on==i
  let anc:=(an.getD j []).contains i
  (i !=j)&&(!b||anc||j==ia)&&
  (match oj.dst with
   |some d=>bif c&&j !=ia then(!((oi.looksAt ops).contains d||oi.dst==some d))||anc else !(oi.looksAt ops).contains d&&oi.dst !=some d
   |none=>c&&j !=ia)&&
  (match oi.dst with
   |some d=> !(oj.looksAt ops).contains d||waits
   |none=>true)
 |_,_=>false
def b0E (ops:Array Oper)(ia:Nat)(an:List (List Nat)):List (Nat×Bool)→Bool
 | []=>true
 |(i,b)::r=>(b||(match ops[i]?with|some o=>(match o.dst with|some d=> !(o.looksAt ops).contains d|none=>false)|none=>false))&&r.all (fun q=>d0I ops ia an i b q.1 q.2)&&b0E ops ia an r
def s0a (ops:Array Oper)(ia:Nat)(ord:List (Nat×Bool)):Bool:=
 ((List.range ops.size).all fun i=>(ord.map Prod.fst).contains i)&&(ord.all fun q=>decide (q.1<ops.size))&&
 ((List.range ops.size).all fun i=>(ops[i]?).all fun o=>o.after.all fun e=> !Region.binds .any e||decide (e.on<i))&&(ord.all fun q=>q.1 !=ia||q.2)&&b0E ops ia (c0P ops.toList []) ord
theorem a0n {ia:Nat}{an:List (List Nat)}: ∀{pre r:List (Nat×Bool)},b0E ops ia an (pre++r)=true→b0E ops ia an r=true∧ ∀q∈pre,∀s∈r,d0I ops ia an q.1 q.2 s.1 s.2=true
 | [],r,h=>⟨h,fun q hq=>by cases hq⟩
 |(i,b)::pre,r,h=>by
  rw[cA,b0E]at h
  simp only[Bool.and_eq_true,List.all_eq_true]at h
  obtain⟨h1,h2⟩:=a0n h.2
  refine⟨h1,fun q hq s hs=> ?_⟩
  rcases List.mem_cons.1 hq with rfl|hq
  ·exact h.1.2 s (List.mem_append_right _ hs)
  ·exact h2 q hq s hs
structure PairOkA (ops:Array Oper) (ia:Nat) (an:List (List Nat)) (i:Nat) (b:Bool) (oi:Oper) (j:Nat) (c:Bool) (oj:Oper):Prop where
 ne:i≠j
 main:b=true→j≠ia→i∈an.getD j []
 flt:c=false∨j=ia→ ∃d,oj.dst=some d∧d∉oi.looksAt ops∧oi.dst≠some d
 mn:c=true→j≠ia→ ∀d,oj.dst=some d→(d∈oi.looksAt ops∨oi.dst=some d)→i∈an.getD j []
 reads: ∀d,oi.dst=some d→d∈oj.looksAt ops→ ∃e∈oj.after,Region.binds .any e=true∧e.on=i
theorem b0v {ia:Nat}{an:List (List Nat)}{i j:Nat}{b c:Bool}{oi oj:Oper}(h:d0I ops ia an i b j c=true)(hi:ops[i]? =some oi)(hj:ops[j]? =some oj):PairOkA ops ia an i b oi j c oj:=by
 unfold d0I at h
 rw[hi,hj]at h
 simp only[Bool.and_eq_true,bne_iff_ne,ne_eq]at h
 obtain⟨⟨⟨h1,h2⟩,h3⟩,h4⟩:=h
 refine⟨h1,fun hb hj=> ?_,fun hc=> ?_,fun hc hj d hd hm=> ?_,fun d hd hm=> ?_⟩
 ·subst hb;simpa[hj]using h2
 ·have hcj:(c&&j !=ia)=false:=by rcases hc with hc|hc<;>simp[hc]
  cases hd:oj.dst with
  |none=>rw[hd]at h3;simp only[hcj]at h3;cases h3
  |some d=>
   rw[hd]at h3
   simp only[hcj,cond_false]at h3
   simp at h3
   exact⟨d,rfl,h3.1,h3.2⟩
 ·subst hc
  have hcj:(true&&j !=ia)=true:=by simp[hj]
  rw[hd]at h3
  simp only[hcj,cond_true]at h3
  simp at h3
  rcases h3 with h3|h3
  ·rcases hm with hm|hm
   ·exact absurd hm h3.1
   ·exact absurd hm h3.2
  ·exact h3
 ·rw[hd]at h4
  simp only[Bool.or_eq_true,Bool.not_eq_true',List.contains_eq_mem,decide_eq_false_iff_not]at h4
  rcases h4 with h4|h4
  ·exact absurd hm h4
  ·obtain⟨x,hx,hx2⟩:=e0i h4
   simp only[Bool.and_eq_true,beq_iff_eq]at hx2
   exact⟨x,hx,hx2.1,hx2.2⟩
structure NI (P:Program) (Γ:Cx) (ops:Array Oper) (al:Al) (Hs:List HE) (K:Env→List HE→Prop) (ord:List (Nat×Bool)) (listed:Array Bool) (A:Act) (W:World) (pre ms:List (Nat×Bool)) (Pd:List Nat) (ea:Option Nat) (E:Env) (H:List HE) (R:Nat→Prop):Prop where
 size:listed.size=ops.size
 closed:c0O ops listed
 part: ∀i,i<ops.size→(listed.getD i false=false↔(i∈Pd∨i∈ms.map Prod.fst)∧(ea≠none→i≠al.i))
 ord:ord=pre++ms
 pdp: ∀i∈Pd,(i,false)∈pre
 am:AN P Γ.N ops al Hs K ms E H
 pend: ∀i∈Pd,∃o d v,ops[i]? =some o∧o.dst=some d∧d<Γ.N∧a0r E d=some v∧OpF P Γ.N ops o (rst E (o.looksAt ops)) Hs (Is v)
 rels:RelS Γ R (H++(al.hs ea++Hs)) W
 eal: ∀b,ea=some b→(al.i,true)∈ms∧A.eval (.tmp al.d)= .pointer (some ⟨b,0,none⟩)
 defers:A.defers= []
 tmps:A.tmps.size=Γ.N
 act: ∀t v,a0r E t=some v→(∀i∈Pd,∀o,ops[i]? =some o→o.dst≠some t)→(ea≠none→t≠al.d)→RelV R W v (A.eval (.tmp t))
variable {Γ:Cx}{al:Al}{Hs:List HE}{K:Env→List HE→Prop}{ord:List (Nat×Bool)}
theorem NI.absorb {listed:Array Bool}{A:Act}{W:World}{R:Nat→Prop}(hok:b0E ops al.i (c0P ops.toList []) ord=true)(hal:al.ok P Γ.N ops): ∀(ms pre:List (Nat×Bool)) (Pd:List Nat) (ea:Option Nat) (E:Env) (H:List HE),NI P Γ ops al Hs K ord listed A W pre ms Pd ea E H R→
  ∃pre' ms' Pd' ea' E' H',NI P Γ ops al Hs K ord listed A W pre' ms' Pd' ea' E' H' R∧(ms'= []∨ ∃m r,ms'=(m,true)::r∧(m=al.i→ea'=none))
 | [],pre,Pd,ea,E,H,h=>⟨pre,[],Pd,ea,E,H,h,.inl rfl⟩
 | (m,true)::r,pre,Pd,ea,E,H,h=>by
  by_cases hm:m=al.i
  ·subst hm
   cases hea:ea with
   |none=>subst hea;exact⟨pre,_,Pd,none,E,H,h,.inr ⟨_,r,rfl,fun _=>rfl⟩⟩
   | some b=>
    subst hea
    obtain⟨oa,ho,hd,hN,hg,hop⟩:=hal
    have ham:=h.am
    rw[AN,if_pos rfl]at ham
    have hord:=h.ord
    have hq:=a0n (pre:=pre) (r:=(al.i,true)::r) (by rw[←hord];exact hok)
    have hself: ∀i∈Pd,i≠al.i:=fun i hi e=>by
     have:=b0v (hq.2 _ (h.pdp i hi) (al.i,true) (List.mem_cons_self ..)) (by rw[e];exact ho) ho
     exact this.ne e
    have hp: ∀i∈Pd,∀oi,ops[i]? =some oi→al.d∉oi.looksAt ops∧oi.dst≠some al.d:=fun i hi oi hoi=>by
     have:=b0v (hq.2 _ (h.pdp i hi) (al.i,true) (List.mem_cons_self ..)) hoi ho
     obtain⟨d',h1,h2,h3⟩:=this.flt (.inr rfl)
     rw[hd]at h1
     cases h1
     exact⟨h2,h3⟩
    have hnr:al.i∉r.map Prod.fst:=fun hm=>by
     obtain⟨⟨j,c⟩,hq3,hji⟩:=List.mem_map.1 hm
     have h9:=(a0n (pre:=pre++[(al.i,true)]) (r:=r) (by rw[List.append_assoc,List.singleton_append,←hord];exact hok)).2 (al.i,true) (by simp) _ hq3
     simp only at hji
     subst hji
     exact(b0v h9 ho ho).ne rfl
    refine NI.absorb hok ⟨oa,ho,hd,hN,hg,hop⟩ r (pre++[(al.i,true)]) Pd none ((al.d,.val (.pointer (some ⟨b,0,none⟩)))::E) (al.he b::H) ⟨h.size,h.closed,fun i hi=> ?_,by rw[hord];simp,fun i hi=>List.mem_append_left _ (h.pdp i hi),ham b,fun i hi=> ?_,?_,fun _ h=>(by cases h),h.defers,h.tmps,fun t x ht hpd _=> ?_⟩
    ·rw[h.part i hi]
     simp only[List.map_cons,List.mem_cons,ne_eq,not_false_eq_true,forall_const,not_true_eq_false,false_implies,and_true,reduceCtorEq]
     constructor
     ·rintro⟨h1|h1|h1,h2⟩
      ·exact .inl h1
      ·exact absurd h1 h2
      ·exact .inr h1
     ·rintro(h1|h1)
      ·exact⟨.inl h1,hself i h1⟩
      ·exact⟨.inr (.inr h1),fun e=>hnr (e▸h1)⟩
    ·obtain⟨oi,di,vi,h1,h2,h3,h4,h5⟩:=h.pend i hi
     obtain⟨h6,h7⟩:=hp i hi oi h1
     refine⟨oi,di,vi,h1,h2,h3,?_,by rw[b0e h6];exact h5⟩
     rw[a0J (fun e=>h7 (by rw[h2,e]))];exact h4
    ·refine h.rels.perm ?_
     show(al.he b::(H++([]++Hs))).Perm (H++([al.he b]++Hs))
     exact(List.perm_middle (a:=al.he b) (l₁:=H) (l₂:=Hs)).symm
    ·by_cases hdt:al.d=t
     ·subst hdt
      rw[b0n]at ht
      cases ht
      rw[(h.eal b rfl).2];exact .val _
     ·rw[a0J hdt]at ht
      exact h.act t x ht hpd fun _ e=>hdt e.symm
  ·exact⟨pre,_,Pd,ea,E,H,h,.inr ⟨m,r,rfl,fun e=>absurd e hm⟩⟩
 | (j,false)::r,pre,Pd,ea,E,H,h=>by
  obtain⟨o,d,v,ho,hd,hN,hop,ham⟩:=h.am
  have hord:=h.ord
  have hq:=a0n (pre:=pre) (r:=(j,false)::r) (by rw[←hord];exact hok)
  have hself:d∉o.looksAt ops:=by
   have:=hq.1
   rw[b0E]at this
   simp only[Bool.and_eq_true,ho,hd,Bool.false_or]at this
   simpa using this.1.1
  have hp: ∀i∈Pd,∀oi,ops[i]? =some oi→d∉oi.looksAt ops∧oi.dst≠some d:=fun i hi oi hoi=>by
   have:=b0v (hq.2 _ (h.pdp i hi) (j,false) (List.mem_cons_self ..)) hoi ho
   obtain⟨d',h1,h2,h3⟩:=this.flt (.inl rfl)
   rw[hd]at h1
   cases h1
   exact⟨h2,h3⟩
  refine NI.absorb hok hal r (pre++[(j,false)]) (j::Pd) ea ((d,v)::E) H ⟨h.size,h.closed,fun i hi=> ?_,by rw[hord];simp,fun i hi=> ?_,ham,fun i hi=> ?_,h.rels,fun b hb=> ?_,h.defers,h.tmps,fun t x ht hpd hea=> ?_⟩
  ·rw[h.part i hi]
   simp only[List.map_cons,List.mem_cons]
   refine and_congr_left fun _=> ?_
   constructor
   ·rintro(h|h|h)
    ·exact .inl (.inr h)
    ·exact .inl (.inl h)
    ·exact .inr h
   ·rintro((h|h)|h)
    ·exact .inr (.inl h)
    ·exact .inl h
    ·exact .inr (.inr h)
  ·rcases List.mem_cons.1 hi with rfl|hi
   ·simp
   ·exact List.mem_append_left _ (h.pdp i hi)
  ·rcases List.mem_cons.1 hi with rfl|hi
   ·exact⟨o,d,v,ho,hd,hN,b0n,by rw[b0e hself];exact hop⟩
   ·obtain⟨oi,di,vi,h1,h2,h3,h4,h5⟩:=h.pend i hi
    obtain⟨h6,h7⟩:=hp i hi oi h1
    refine⟨oi,di,vi,h1,h2,h3,?_,by rw[b0e h6];exact h5⟩
    rw[a0J (fun e=>h7 (by rw[h2,e]))];exact h4
  ·obtain⟨h1,h2⟩:=h.eal b hb
   rcases List.mem_cons.1 h1 with h1|h1
   ·cases h1
   ·exact⟨h1,h2⟩
  ·have hne:d≠t:=fun e=>hpd j (List.mem_cons_self ..) o ho (by rw[hd,e])
   rw[a0J hne]at ht
   exact h.act t x ht (fun i hi=>hpd i (List.mem_cons_of_mem _ hi)) hea
theorem NI.reads {listed:Array Bool}{A:Act}{W:World}{R:Nat→Prop}{pre ms:List (Nat×Bool)}{Pd:List Nat}{ea:Option Nat}{E:Env}{H:List HE}(hok:b0E ops al.i (c0P ops.toList []) ord=true)(hal:al.ok P Γ.N ops)(h:NI P Γ ops al Hs K ord listed A W pre ms Pd ea E H R)
  {i:Nat} {b:Bool} {o:Oper} (ho:ops[i]? =some o) (hdeps: ∀e∈o.after,Region.binds .any e=true→listed.getD e.on false=true) (hi:(i,b)∈pre∧i∈Pd∧b=false∨ ∃r,ms=(i,b)::r∧i≠al.i):RelA Γ.N R W (rst E (o.looksAt ops)) A:=by
 refine⟨h.defers,h.tmps,fun t v ht=> ?_⟩
 obtain⟨htl,ht⟩:=d0b ht
 obtain⟨oa,hoa,hda, -⟩:=hal
 have hnal:ea≠none→t≠al.d:=fun hea e=>by
  obtain⟨b',hb'⟩:=Option.ne_none_iff_exists'.1 hea
  have hmem:=(h.eal b' hb').1
  have key:d0I ops al.i (c0P ops.toList []) i b al.i true=true→False:=fun hp=>by
   obtain⟨d',h1,h2, -⟩:=(b0v hp ho hoa).flt (.inr rfl)
   rw[hda]at h1;cases h1
   exact h2 (e▸htl)
  rcases hi with⟨hip, -, -⟩|⟨r,hms,hne⟩
  ·exact key ((a0n (pre:=pre) (r:=ms) (by rw[←h.ord];exact hok)).2 _ hip _ hmem)
  ·rw[hms]at hmem
   rcases List.mem_cons.1 hmem with h9|h9
   ·cases h9;exact hne rfl
   ·exact key ((a0n (pre:=pre++[(i,b)]) (r:=r) (by have:=h.ord;rw[List.append_assoc,List.singleton_append,←hms,←this];exact hok)).2 (i,b) (by simp) _ h9)
 refine h.act t v ht (fun k hk ok hok' hdk=> ?_) hnal
 have hkp:=h.pdp k hk
 have hkn:ea≠none→k≠al.i:=fun hea e=>by
  obtain⟨b',hb'⟩:=Option.ne_none_iff_exists'.1 hea
  have hmem:=(h.eal b' hb').1
  exact(b0v ((a0n (pre:=pre) (r:=ms) (by rw[←h.ord];exact hok)).2 _ hkp _ hmem) hok' hoa).ne e
 have hkf:listed.getD k false=false:=(h.part k (Array.getElem?_eq_some_iff.1 hok').1).2 ⟨.inl hk,hkn⟩
 have direct:d0I ops al.i (c0P ops.toList []) k false i b=true→False:=fun hp=>by
  obtain⟨e,he,hb,hon⟩:=(b0v hp hok' ho).reads t hdk htl
  have:=hdeps e he hb
  rw[hon,hkf]at this;cases this
 rcases hi with⟨hip,hiP,rfl⟩|⟨r,hms, -⟩
 ·
  obtain⟨p1,p2,hp12⟩:=List.append_of_mem hkp
  have hord:=h.ord
  rw[hp12,List.append_assoc]at hord
  rw[hp12]at hip
  rcases List.mem_append.1 hip with hip|hip
  ·
   have hq:=a0n (pre:=p1) (by rw[←hord];exact hok)
   have:=b0v (hq.2 _ hip (k,false) (List.mem_cons_self ..)) ho hok'
   obtain⟨d',h1,h2, -⟩:=this.flt (.inl rfl)
   rw[hdk]at h1;cases h1
   exact h2 htl
  ·rcases List.mem_cons.1 hip with he|hip
   ·cases he
    have hq:=(a0n (pre:=p1) (by rw[←hord];exact hok)).1
    rw[cA,b0E]at hq
    simp only[Bool.and_eq_true]at hq
    obtain rfl:o=ok:=by rw[ho]at hok';exact Option.some.inj hok'
    have:=hq.1.1
    rw[ho]at this
    simp only[hdk,Bool.false_or]at this
    simp at this
    exact this htl
   ·rw[show p1++((k,false)::p2++ms)=(p1++[(k,false)])++(p2++ms) by simp]at hord
    have hq:=a0n (pre:=p1++[(k,false)]) (by rw[←hord];exact hok)
    exact direct (hq.2 (k,false) (by simp) (i,false) (List.mem_append_left _ hip))
 ·have hq:=a0n (pre:=pre) (r:=ms) (by rw[←h.ord];exact hok)
  exact direct (hq.2 _ hkp (i,b) (by rw[hms];exact List.mem_cons_self ..))
theorem AW.regionA {Q:Exit→Act→World→Prop}{E:Env}{H:List HE}{id:Nat}{l:List Oper}(al:Al)(hal0:al.ok P Γ.N l.toArray)(ord:List (Nat×Bool)){Hm Hs:List HE}(hm:P.follows .mixedOrders=true)(hok:s0a l.toArray al.i ord=true)(hH:b0X E H Hm Hs)
  (h:AN P Γ.N l.toArray al Hs (fun E' H'=>AQ Γ Q .normal E' (H'++Hs)) ord E Hm):AW Γ P Q (.region id l.toArray true) E H:=fun R a W hs0 ha0=>by
 obtain⟨ops,hops⟩: ∃ops,ops=l.toArray:=⟨_,rfl⟩
 rw[←hops]at h hok hal0
 have hal:=hal0
 obtain⟨oa,hoa,hda,hNa,hga,hopa⟩:=hal0
 simp only[s0a,Bool.and_eq_true,List.all_eq_true,List.mem_range]at hok
 obtain⟨⟨⟨⟨hall,hlt⟩,hbk⟩,hkind⟩,hpairs⟩:=hok
 have hkd: ∀i b,(i,b)∈ord→i=al.i→b=true:=fun i b hib e=>by have:=hkind _ hib;simpa[e]using this
 have hback: ∀i o,ops[i]? =some o→ ∀e∈o.after,Region.binds .any e=true→e.on<i:=fun i o ho e he hb=>by
  have hi:i<ops.size:=(Array.getElem?_eq_some_iff.1 ho).1
  have:=hbk i hi
  rw[ho]at this
  simp only[Option.all_some]at this
  have:=Array.all_eq_true_iff_forall_mem.1 this e he
  simpa[hb]using this
 have main: ∀(fuel:Nat) (listed:Array Bool) (A:Act) (W:World) (pre ms:List (Nat×Bool)) (Pd:List Nat) (ea:Option Nat) (E:Env) (H:List HE) (R:Nat→Prop),fuel=listed.toList.count false→
   NI P Γ ops al Hs (fun E' H'=>AQ Γ Q .normal E' (H'++Hs)) ord listed A W pre ms Pd ea E H R→(ms= []∨ ∃m r,ms=(m,true)::r∧(m=al.i→ea=none))→wpAny P .any ops Q fuel listed A W:=by
  intro fuel
  induction fuel with
  | zero=>
   intro listed A W pre ms Pd ea E H R hc hI hhd
   have hlist: ∀i,i<ops.size→listed.getD i false=true:=by
    intro i hi
    have hi':i<listed.size:=by rw[hI.size];exact hi
    cases hb:listed.getD i false with
    |true=>rfl
    | false=>
     exfalso
     have hm:false∈listed.toList:=by
      rw[←hb];simp[Array.getD,hi']
     have:=List.count_pos_iff.2 hm
     omega
   have hin: ∀i b,(i,b)∈ord→i<ops.size:=fun i b hib=>by have:=hlt _ hib;simpa using this
   have hms:ms= []:=by
    rcases hhd with h|⟨m,r,h,hm0⟩
    ·exact h
    ·have h1:=hin m true (by rw[hI.ord,h];simp)
     have:=(hI.part m h1).2 ⟨.inr (by rw[h];simp),fun hne e=>hne (hm0 e)⟩
     rw[hlist m h1]at this;cases this
   have hea:ea=none:=by
    cases hea:ea with
    |none=>rfl
    |some b=>have:=(hI.eal b hea).1;rw[hms]at this;cases this
   subst hea
   have hPd:Pd= []:=by
    rw[List.eq_nil_iff_forall_not_mem]
    intro i hi
    have h1:=hin i false (by rw[hI.ord];exact List.mem_append_left _ (hI.pdp i hi))
    have:=(hI.part i h1).2 ⟨.inl hi,fun hne=>absurd rfl hne⟩
    rw[hlist i h1]at this;cases this
   subst hms
   subst hPd
   refine⟨?_,hI.am R A W (by simpa[Al.hs]using hI.rels) ⟨hI.defers,hI.tmps,fun t v ht=>hI.act t v ht (fun i hi=>(by cases hi)) fun hne=>absurd rfl hne⟩⟩
   rw[List.eq_nil_iff_forall_not_mem]
   intro i hi
   obtain⟨h0,o,ho,_⟩:=mem_ready.1 hi
   have hi':i<ops.size:=(Array.getElem?_eq_some_iff.1 ho).1
   have:=hlist i hi'
   rw[←b0a (by rw[hI.size];exact hi')]at this
   rw[this]at h0;cases h0
  | succ fuel ih=>
   intro listed A W pre ms Pd ea E H R hc hI hhd
   have hne: ∃i,i∈Region.ready .any ops listed:=by
    have hex: ∃i,i<ops.size∧listed.getD i false=false:=by
     have hpos:0<listed.toList.count false:=by omega
     obtain⟨i,hi,hf⟩:=List.getElem_of_mem (List.count_pos_iff.1 hpos)
     have hi':i<listed.size:=by simpa using hi
     exact⟨i,by rw[←hI.size];exact hi',by simpa[Array.getD,hi']using hf⟩
    obtain⟨i,⟨hi,hf⟩,hmin⟩: ∃i,(i<ops.size∧listed.getD i false=false)∧ ∀j,j<i→ ¬(j<ops.size∧listed.getD j false=false):=by
     obtain⟨i,h⟩:=hex
     exact m0P ⟨i,h⟩
    have hio:ops[i]? =some ops[i]:=by simp[hi]
    refine⟨i,mem_ready.2 ⟨by rw[b0a (by rw[hI.size];exact hi)];exact hf,_,hio,fun e he hb=> ?_⟩⟩
    have:=hback i _ hio e he hb
    cases hb2:listed.getD e.on false with
    |true=>rfl
    |false=>exact absurd ⟨by omega,hb2⟩ (hmin e.on this)
   refine⟨fun e=>(by obtain⟨i,hi⟩:=hne;rw[e]at hi;cases hi),fun i hi=> ?_⟩
   obtain⟨h0,o,ho,hdeps⟩:=mem_ready.1 hi
   have hio:i<ops.size:=(Array.getElem?_eq_some_iff.1 ho).1
   have hf:listed.getD i false=false:=by rw[←b0a (by rw[hI.size];exact hio)];exact h0
   have hil:i<listed.size:=by rw[hI.size];exact hio
   have hanc: ∀j,j∈(c0P ops.toList []).getD i []→listed.getD j false=true:=fun j hj=>c0M hI.closed hback i o ho hdeps j hj
   have hcl:=c0c hI.closed ho hil hdeps
   have hcnt:fuel=(listed.setIfInBounds i true).toList.count false:=by
    have hcs:=a0T listed.toList i (by simpa using hil) (by simpa[Array.getD,hil]using hf)
    simp only[Array.toList_setIfInBounds]
    omega
   have hgd: ∀k,k≠i→(listed.setIfInBounds i true).getD k false=listed.getD k false:=fun k hk=>getD_set_ne false (Ne.symm hk)
   have hgi:(listed.setIfInBounds i true).getD i false=true:=by simp[Array.getD,hil]
   have hsz:(listed.setIfInBounds i true).size=ops.size:=by simpa using hI.size
   obtain⟨hPm,hni⟩:=(hI.part i hio).1 hf
   by_cases hia:i=al.i
   ·
    have hea:ea=none:=Classical.byContradiction fun hne=>hni hne hia
    subst hea
    obtain rfl:o=oa:=by rw[hia,hoa]at ho;exact(Option.some.inj ho).symm
    have hnP:al.i∉Pd:=fun hp=>by
     have:=hkd _ _ (by rw[hI.ord];exact List.mem_append_left _ (hI.pdp _ hp)) rfl
     cases this
    have hmm:(al.i,true)∈ms:=by
     rcases hPm with h1|h1
     ·exact absurd (hia▸h1) hnP
     ·obtain⟨⟨j,c⟩,hq,hji⟩:=List.mem_map.1 h1
      simp only at hji
      have hji':j=al.i:=hji.trans hia
      have:=hkd j c (by rw[hI.ord];exact List.mem_append_right _ hq) hji'
      rw[←hji',←this];exact hq
    have hs:=hopa R A W hI.rels.rlt (fun e he=>(by cases he)) (fun e he=>(by cases he)) ⟨hI.defers,hI.tmps,fun t v ht=>(by cases ht)⟩
    have hnext: ∀u W',(∃v' Hn R',b0j (fun b=> .val (.pointer (some ⟨b,0,none⟩))) al.T al.room al.xs v' Hn∧Post1 R W v' Hn u W' R')→wpAny P .any ops Q fuel (listed.setIfInBounds i true) (A.put o.dst u) W':=by
     rintro u W' ⟨v',Hn,R',⟨b,rfl,rfl⟩,hp⟩
     have hu:=hp.val.val_inv
     subst hu
     have hrel:RelS Γ R' (H++(al.hs (some b)++Hs)) W':=by
      refine(hI.rels.step hp).perm ?_
      show(H++([al.he b]++Hs)).Perm ([al.he b]++(H++([]++Hs)))
      exact(List.perm_middle (a:=al.he b) (l₁:=H) (l₂:=Hs))
     have hI':NI P Γ ops al Hs (fun E' H'=>AQ Γ Q .normal E' (H'++Hs)) ord (listed.setIfInBounds i true) (A.put o.dst (.pointer (some ⟨b,0,none⟩))) W' pre ms Pd (some b) E H R':=by
      refine⟨hsz,hcl,fun k hk=> ?_,hI.ord,hI.pdp,hI.am,hI.pend,hrel,fun b' hb'=> ?_,?_,?_,fun t x ht hpd hne=> ?_⟩
      ·by_cases hki:k=i
       ·subst hki
        rw[hgi]
        simp[hia]
       ·rw[hgd k hki,hI.part k hk]
        have hka:k≠al.i:=fun e=>hki (e.trans hia.symm)
        simp[hka]
      ·cases hb'
       refine⟨hmm,?_⟩
       rw[hda,a0t (by rw[hI.tmps];exact hNa)]
      ·rw[hda];exact hI.defers
      ·rw[hda];simp[Act.put,hI.tmps]
      ·have hdt:al.d≠t:=fun e=>hne (by simp) e.symm
       rw[hda,a0d hdt]
       exact(hI.act t x ht hpd fun h=>absurd rfl h).mono hp.sub (c0D hp.ext hI.rels.rlt)
     obtain⟨pre',ms',Pd',ea',E',H',hI2,hh2⟩:=hI'.absorb hpairs hal
     exact ih _ _ _ pre' ms' Pd' ea' E' H' R' hcnt hI2 hh2
    unfold wpOp
    rw[ho]
    show if Region.wanted o (yielded ops A.tmps)=true then _ else _
    rw[if_pos (by unfold Region.wanted;rw[hga])]
    refine .inl (Oper.wp_mono ?_ (a0Z hs))
    rintro A' W' ⟨u,v',Hn,R',rfl,hn,hp⟩
    exact hnext u W' ⟨v',Hn,R',hn,hp⟩
   rcases hPm with hPd|hms
   ·
    obtain⟨o',d,v,ho',hd,hN,hlk,hop⟩:=hI.pend i hPd
    obtain rfl:o=o':=by rw[ho]at ho';exact Option.some.inj ho'
    have hA:=hI.reads hpairs hal ho hdeps (b:=false) (.inl ⟨hI.pdp i hPd,hPd,rfl⟩)
    have hs:=hop R A W hI.rels.rlt (fun e he=>hI.rels.ok e (List.mem_append_right _ (List.mem_append_right _ he))) (fun e he b hb=>(hI.rels.own e (List.mem_append_right _ (List.mem_append_right _ he)) b hb).2) hA
    have hnext: ∀u W',(∃v' Hn R',Is v v' Hn∧Post1 R W v' Hn u W' R')→wpAny P .any ops Q fuel (listed.setIfInBounds i true) (A.put o.dst u) W':=by
     rintro u W' ⟨v',Hn,R',⟨rfl,rfl⟩,hp⟩
     have hnm:i∉ms.map Prod.fst:=fun hm=>by
      obtain⟨⟨j,c⟩,hq,hji⟩:=List.mem_map.1 hm
      have hq2:=(a0n (pre:=pre) (r:=ms) (by rw[←hI.ord];exact hpairs)).2 _ (hI.pdp i hPd) _ hq
      simp only at hji
      subst hji
      exact(b0v hq2 ho ho).ne rfl
     have hdne:ea≠none→d≠al.d:=fun hne e=>by
      obtain⟨b',hb'⟩:=Option.ne_none_iff_exists'.1 hne
      have hq2:=(a0n (pre:=pre) (r:=ms) (by rw[←hI.ord];exact hpairs)).2 _ (hI.pdp i hPd) _ (hI.eal b' hb').1
      obtain⟨d',h1,h2,h3⟩:=(b0v hq2 ho hoa).flt (.inr rfl)
      rw[hda]at h1;cases h1
      exact h3 (by rw[hd,e])
     refine ih _ _ _ pre ms (Pd.filter (· ≠i)) ea E H R' hcnt ⟨hsz,hcl,fun k hk=> ?_,hI.ord,fun k hk=>hI.pdp k (List.mem_filter.1 hk).1,hI.am,fun k hk=>hI.pend k (List.mem_filter.1 hk).1,by simpa using hI.rels.step hp,fun b' hb'=> ?_,?_,?_,fun t x ht hpd hne=> ?_⟩ hhd
     ·by_cases hki:k=i
      ·subst hki
       rw[hgi]
       simp[hnm]
      ·rw[hgd k hki,hI.part k hk]
       simp[hki]
     ·obtain⟨h1,h2⟩:=hI.eal b' hb'
      refine⟨h1,?_⟩
      rw[hd,a0d (hdne (by rw[hb'];simp))];exact h2
     ·rw[hd];exact hI.defers
     ·rw[hd];simp[Act.put,hI.tmps]
     ·rw[hd]
      by_cases hdt:d=t
      ·subst hdt
       rw[hlk]at ht
       cases ht
       rw[a0t (by rw[hI.tmps];exact hN)];exact hp.val
      ·rw[a0d hdt]
       refine(hI.act t x ht (fun k hk ok hok hdk=> ?_) ?_).mono hp.sub (c0D hp.ext hI.rels.rlt)
       by_cases hki:k=i
       ·subst hki
        rw[ho]at hok
        cases hok
        rw[hd]at hdk
        cases hdk
        exact hdt rfl
       ·exact hpd k (List.mem_filter.2 ⟨hk,by simpa using hki⟩) ok hok hdk
       ·exact hne
    unfold wpOp
    rw[ho]
    unfold c0N at hs
    show if Region.wanted o (yielded ops A.tmps)=true then _ else _
    split
    ·rename_i hw
     rw[if_pos hw]at hs
     refine .inl (Oper.wp_mono ?_ (a0Z hs))
     rintro A' W' ⟨u,rfl,hp⟩
     exact hnext u W' hp
    ·rename_i hw
     rw[if_neg hw]at hs
     exact hnext _ _ hs
   ·
    rcases hhd with rfl|⟨m,r,rfl,hm0⟩
    ·cases hms
    have hmlt:m<ops.size:=by have:=hlt (m,true) (by rw[hI.ord];simp);simpa using this
    have hmf:listed.getD m false=false:=(hI.part m hmlt).2 ⟨.inr (by simp),fun hne e=>hne (hm0 e)⟩
    have him:i=m:=by
     rcases List.mem_cons.1 hms with h|h
     ·exact h
     ·exfalso
      obtain⟨⟨j,c⟩,hq,hji⟩:=List.mem_map.1 h
      simp only at hji
      subst hji
      have h9:=(a0n (pre:=pre++[(m,true)]) (r:=r) (by have:=hI.ord;rw[List.append_assoc,List.singleton_append,←this];exact hpairs)).2 (m,true) (by simp) _ hq
      have hom:ops[m]? =some ops[m]:=by simp[hmlt]
      have:=hanc m ((b0v h9 hom ho).main rfl hia)
      rw[hmf]at this;cases this
    subst him
    have ham0:=hI.am
    rw[AN,if_neg hia]at ham0
    obtain⟨o',ho',hAO⟩:=ham0
    obtain rfl:o=o':=by rw[ho]at ho';exact Option.some.inj ho'
    have hA:=hI.reads hpairs hal ho hdeps (b:=true) (.inr ⟨r,rfl,hia⟩)
    have hs:=hAO W R R A W ⟨Mods.refl _ _,hI.rels.rlt,fun _ h=>h,fun _ h=> .inl h,fun e he=>hI.rels.ok e (List.mem_append_left _ he),fun e he b hb=>⟨.inr ⟨e,he,hb⟩,(hI.rels.own e (List.mem_append_left _ he) b hb).2⟩,(List.pairwise_append.1 hI.rels.disj).1⟩ hA
    have hnext: ∀u W',QS ⟨W,a0E H,R,Γ.N⟩ o.dst (fun v H'=>AN P Γ.N ops al Hs (fun E' H'=>AQ Γ Q .normal E' (H'++Hs)) r (a0q o.dst v E) H') .normal (A.put o.dst u) W'→wpAny P .any ops Q fuel (listed.setIfInBounds i true) (A.put o.dst u) W':=by
     rintro u W' ⟨hdf,v,H',R',ham,hsr,hvr⟩
     obtain⟨hrel,hRW⟩:=RelS.part hI.rels hsr
     have hpd: ∀k∈Pd,∀ok,ops[k]? =some ok→ ∀d,o.dst=some d→d∉ok.looksAt ops∧ok.dst≠some d:=fun k hk ok hok d hd=>by
      have h9:=(a0n (pre:=pre) (r:=(i,true)::r) (by rw[←hI.ord];exact hpairs)).2 _ (hI.pdp k hk) (i,true) (List.mem_cons_self ..)
      have hkf:listed.getD k false=false:=(hI.part k (Array.getElem?_eq_some_iff.1 hok).1).2 ⟨.inl hk,fun _ e=>(by have:=hkd _ _ (by rw[hI.ord];exact List.mem_append_left _ (hI.pdp k hk)) e;cases this)⟩
      have hno:k∉(c0P ops.toList []).getD i []:=fun hm=>by
       have:=hanc k hm
       rw[hkf]at this;cases this
      exact⟨fun hm=>hno ((b0v h9 hok ho).mn rfl hia d hd (.inl hm)),fun he=>hno ((b0v h9 hok ho).mn rfl hia d hd (.inr he))⟩
     have hnr:i∉r.map Prod.fst:=fun hm=>by
      obtain⟨⟨j,c⟩,hq,hji⟩:=List.mem_map.1 hm
      have h9:=(a0n (pre:=pre++[(i,true)]) (r:=r) (by have:=hI.ord;rw[List.append_assoc,List.singleton_append,←this];exact hpairs)).2 (i,true) (by simp) _ hq
      simp only at hji
      subst hji
      exact(b0v h9 ho ho).ne rfl
     have hnp:i∉Pd:=fun hk=>by
      have h9:=(a0n (pre:=pre) (r:=(i,true)::r) (by rw[←hI.ord];exact hpairs)).2 _ (hI.pdp i hk) (i,true) (List.mem_cons_self ..)
      exact(b0v h9 ho ho).ne rfl
     have hdne:ea≠none→o.dst≠some al.d:=fun hne=>by
      obtain⟨b',hb'⟩:=Option.ne_none_iff_exists'.1 hne
      rcases List.mem_cons.1 (hI.eal b' hb').1 with h1|h1
      ·cases h1;exact absurd rfl hia
      ·have h9:=(a0n (pre:=pre++[(i,true)]) (r:=r) (by have:=hI.ord;rw[List.append_assoc,List.singleton_append,←this];exact hpairs)).2 (i,true) (by simp) _ h1
       obtain⟨d',h1,h2,h3⟩:=(b0v h9 ho hoa).flt (.inr rfl)
       rw[hda]at h1;cases h1
       exact h3
     have hI':NI P Γ ops al Hs (fun E' H'=>AQ Γ Q .normal E' (H'++Hs)) ord (listed.setIfInBounds i true) (A.put o.dst u) W' (pre++[(i,true)]) r Pd ea (a0q o.dst v E) H' R':=by
      refine⟨hsz,hcl,fun k hk=> ?_,by rw[hI.ord];simp,fun k hk=>List.mem_append_left _ (hI.pdp k hk),ham,fun k hk=> ?_,hrel,fun b' hb'=> ?_,hdf,?_,fun t x ht hp hne=> ?_⟩
      ·by_cases hki:k=i
       ·subst hki
        rw[hgi]
        simp[hnr,hnp]
       ·rw[hgd k hki,hI.part k hk]
        simp[hki]
      ·obtain⟨ok,dk,vk,h1,h2,h3,h4,h5⟩:=hI.pend k hk
       refine⟨ok,dk,vk,h1,h2,h3,?_,?_⟩
       ·cases hd:o.dst with
        |none=>exact h4
        |some d=>rw[a0q,a0J (fun e=>(hpd k hk ok h1 d hd).2 (by rw[h2,e]))];exact h4
       ·cases hd:o.dst with
        |none=>exact h5
        |some d=>rw[a0q,b0e (hpd k hk ok h1 d hd).1];exact h5
      ·obtain⟨h1,h2⟩:=hI.eal b' hb'
       refine⟨(List.mem_cons.1 h1).resolve_left fun e=>(by cases e;exact hia rfl),?_⟩
       cases hd:o.dst with
       |none=>exact h2
       |some d=>rw[a0d (fun e=>hdne (by rw[hb'];simp) (by rw[hd,e]))];exact h2
      ·cases hd:o.dst<;>simp[Act.put,hI.tmps]
      ·cases hd:o.dst with
       |none=>
        rw[hd]at ht
        exact(hI.act t x ht hp hne).mono hsr.rsub hRW
       | some d=>
        rw[hd,a0q]at ht
        by_cases hdt:d=t
        ·subst hdt
         rw[b0n]at ht
         cases ht
         have:=hvr d hd
         rwa [hd]at this
        ·rw[a0J hdt]at ht
         rw[a0d hdt]
         exact(hI.act t x ht hp hne).mono hsr.rsub hRW
     obtain⟨pre',ms',Pd',ea',E',H'',hI2,hh2⟩:=hI'.absorb hpairs hal
     exact ih _ _ _ pre' ms' Pd' ea' E' H'' R' hcnt hI2 hh2
    unfold wpOp
    rw[ho]
    unfold wpList at hs
    show if Region.wanted o (yielded ops A.tmps)=true then _ else _
    split
    ·rename_i hw
     rw[if_pos hw]at hs
     refine .inl ?_
     rcases hs with hs|⟨-,a',w',hl⟩
     ·have hs2:o.wp P A W (wpList P ops (QS ⟨W,a0E H,R,Γ.N⟩ o.dst (fun v H'=>AN P Γ.N ops al Hs (fun E' H'=>AQ Γ Q .normal E' (H'++Hs)) r (a0q o.dst v E) H')) []) NoQ:=by
       unfold Oper.wp at hs⊢
       revert hs
       cases(execOp A.eval o).run P W with
       | ok n w'=>
        cases n with
        |enter f args=>
         intro hs
         refine Calls.mono hs ?_
         intro e w'' he
         cases e with
         |returned v=>exact he
         |outgrown=>obtain⟨a',w',hl⟩:=he;exact hl.elim
         |_=>exact he.elim
        |_=>exact fun h=>h
       |halt x w'=>cases x<;>exact fun h=>h
      refine Oper.wp_mono ?_ (a0Z (Oper.wp_put hs2))
      rintro A' W' ⟨hq,hA'⟩
      have hq':QS ⟨W,a0E H,R,Γ.N⟩ o.dst (fun v H'=>AN P Γ.N ops al Hs (fun E' H'=>AQ Γ Q .normal E' (H'++Hs)) r (a0q o.dst v E) H') .normal A' W':=hq
      rcases hA' with⟨u,rfl⟩|hnd
      ·exact hnext u W' hq'
      ·exact absurd hq'.1 hnd
     ·exact hl.elim
    ·rename_i hw
     rw[if_neg hw]at hs
     exact hnext _ _ hs
 have hs:RelS Γ R (Hm++Hs) W.drew:=(RelS.perm ⟨hs0.mods.drew,hs0.rlt,hs0.rsub,hs0.rnew,fun e he=>HE.ok_mono (W:=W) (W':=W.drew) (fun _ h=>h) (fun _ _=>rfl) (Nat.le_refl _) (fun _ _=>rfl) (hs0.ok e he),hs0.own,hs0.disj⟩ hH.symm)
 have ha:RelA Γ.N R W.drew E a:=ha0.mono (fun _ h=>h) (fun _ _=>rfl)
 refine wp_region_any hm ?_
 rw[←hops]
 have hI:NI P Γ ops al Hs (fun E' H'=>AQ Γ Q .normal E' (H'++Hs)) ord (Array.replicate ops.size false) a W.drew [] ord [] none E Hm R:=by
  refine⟨by simp,fun i o hl=> ?_,fun i hi=> ?_,rfl,fun i hi=>(by cases hi),h,fun i hi=>(by cases hi),by simpa[Al.hs]using hs,fun _ h=>(by cases h),ha.defers,ha.size,fun t v ht _ _=>ha.slots t v ht⟩
  ·exfalso
   by_cases h:i<ops.size<;>simp[Array.getD,h]at hl
  ·have:=hall i hi
   simp only[List.contains_eq_mem,cQ]at this
   simp[Array.getD,hi,this]
 obtain⟨pre',ms',Pd',ea',E',H'',hI2,hh2⟩:=hI.absorb hpairs hal
 exact main _ _ _ _ pre' ms' Pd' ea' E' H'' R (by simp) hI2 hh2
theorem AN.op {i d:Nat}{r:List (Nat×Bool)}{E:Env}{H:List HE}{o:Oper}{v:AV}(ho:ops[i]? =some o)(h:OpW P N o (rst E (o.looksAt ops)) Hs (Is v))(hw:a0f ops (rst E (o.looksAt ops)) o=some true)(hd:o.dst=some d)(hN:Nat.ble (d+1) N=true)(k:AN P N ops al Hs K r ((d,v)::E) H):
  AN P N ops al Hs K ((i,false)::r) E H:=⟨o,d,v,ho,hd,lB hN,.run hw h,k⟩
theorem AN.opG {i d:Nat}{r:List (Nat×Bool)}{E:Env}{H:List HE}{o:Oper}{c:Bool}{v:AV}(ho:ops[i]? =some o)(hw:a0S ops (rst E (o.looksAt ops)) o=some c)(hd:o.dst=some d)(hN:Nat.ble (d+1) N=true)(h:c=true→OpW P N o (rst E (o.looksAt ops)) Hs (Is v))(k:AN P N ops al Hs K r ((d,.opt c v)::E) H):
  AN P N ops al Hs K ((i,false)::r) E H:=⟨o,d,_,ho,hd,lB hN,.opt hw h,k⟩
theorem AN.no {i d:Nat}{r:List (Nat×Bool)}{E:Env}{H:List HE}{o:Oper}(ho:ops[i]? =some o)(hw:a0f ops (rst E (o.looksAt ops)) o=some false)(hd:o.dst=some d)(hN:Nat.ble (d+1) N=true)(k:AN P N ops al Hs K r ((d,.val undef)::E) H):
  AN P N ops al Hs K ((i,false)::r) E H:=⟨o,d,_,ho,hd,lB hN,.no hw,k⟩
theorem AN.main {i:Nat}{r:List (Nat×Bool)}{E:Env}{H:List HE}(o:Oper)(ho:ops[i]? =some o)(hne:Nat.beq i al.i=false)(h: ∀w0 R0,AO ⟨w0,a0E H,R0,N⟩ P ops (QS ⟨w0,a0E H,R0,N⟩ o.dst (fun v H'=>AN P N ops al Hs K r (a0q o.dst v E) H')) [o] (rst E (o.looksAt ops)) H):
  AN P N ops al Hs K ((i,true)::r) E H:=by rw[AN,if_neg (Nat.ne_of_beq_eq_false hne)];exact⟨o,ho,h⟩
theorem AN.box {i:Nat}{r:List (Nat×Bool)}{E:Env}{H:List HE}(he:i=al.i)(k: ∀b,AN P N ops al Hs K r ((al.d,.val (.pointer (some ⟨b,0,none⟩)))::E) (al.he b::H)):AN P N ops al Hs K ((i,true)::r) E H:=by rw[AN,if_pos he];exact k
theorem Al.mk' {ops:Array Oper}{i d T room:Nat}{xs:List AV}{bs:Nat}{z:Value}(o:Oper)(ho:ops[i]? =some o)(hd:o.dst=some d)(hN:Nat.ble (d+1) N=true)(hg:o.guard=none)[hn:TyN P T room bs z](hop:o.op= .alloc T)(hx:z.cells.toList.map AV.val=xs)(hk:z.cells.size=room):Al.ok P N ops ⟨i,d,T,room,xs⟩:=
 ⟨o,ho,hd,lB hN,hg,O.alloc hop hx hk⟩
theorem AN.nil {E:Env}{H:List HE}(h:K E H):AN P N ops al Hs K [] E H:=h
end
end Go.Proofs.YtojomcdjcpmnkaaGreat.A
