/-
  Texts laid together (part 1): what the statement's walk and plain law need. No condition.
-/
import Derived.Test.YtojomcdjcpmnkaaGreatRows
import Derived.WalkKit
import Derived.ProofKit
import Derived.OpenShut
import Derived.JoinedCond
import Derived.WalkLawsBesides
import Derived.WalkSpells
import Derived.Handy
import Derived.Lib.Hide
import Derived.Deep.QuietTactic
import Derived.BigQuiet
import Derived.Deep.RegionHeld3
import Derived.Deep.DeepCutAuto
import Derived.Deep.DeepFit
import Derived.Maps.AppendAt
import Derived.Laws.CopyRow
import Derived.Deep.AppendSrc
import Derived.Deep.Upon
import Derived.Great.BuildSlice
set_option linter.unusedVariables false
set_option linter.unusedSimpArgs false
set_option maxRecDepth 20000
set_option maxHeartbeats 4000000
namespace Go.Proofs.YtojomcdjcpmnkaaGreat
theorem cA.{u}{α:Type u}{a:α}{s t:List α}:a::s++t=a::(s++t):=rfl
theorem cN.{u}{α:Type u}{s:List α}: []++s=s:=rfl
theorem cT.{u}{α:Type u}{n:Nat}{a:α}{s:List α}:List.take (n+1) (a::s)=a::List.take n s:=rfl
theorem cZ.{u}{α:Type u}{s:List α}:List.take 0 s= []:=rfl
theorem cD.{u}{α:Type u}{n:Nat}{a:α}{s:List α}:List.drop (n+1) (a::s)=List.drop n s:=rfl
theorem cO.{u}{α:Type u}{s:List α}:List.drop 0 s=s:=rfl
theorem cP.{u}{α:Type u}{s:List α}:s++[]=s:=List.append_nil s
theorem cL.{u}{α:Type u}{a:α}{s:List α}:(a::s).length=s.length+1:=rfl
theorem cE.{u}{α:Type u}:([]:List α).length=0:=rfl
theorem cH.{u}{α:Type u}{s t:List α}:(s++t).length=s.length+t.length:=List.length_append
theorem cQ {p:Prop}[Decidable p]:(decide p=true)=p:=decide_eq_true_eq
theorem cF:(false=true)=False:=Bool.false_eq_true
theorem lB {n m:Nat}(h:Nat.ble n m=true):n≤m:=Nat.le_of_ble_eq_true h
theorem nS.{u}{α:Type u}{l:List α}: ∃H1,H1.Sublist l∧List.Perm [] H1:=⟨_,List.nil_sublist _,.nil⟩
theorem mM.{u}{α:Type u}{e:α}{l:List α}(h:e∈l:=by repeat(first|exact List.Mem.head _|refine List.Mem.tail _ ?_)):e∈l:=h
end Go.Proofs.YtojomcdjcpmnkaaGreat
namespace Go.Proofs.YtojomcdjcpmnkaaGreat.L
open Go.RowKit
structure Mods (S:Nat→Prop) (w w':World):Prop where
 os:w'.os=w.os
 tape:w'.tape=w.tape
 output:w'.output=w.output
 size:w.heap.size≤w'.heap.size
 block: ∀k,k<w.heap.size→ ¬S k→w'.heap[k]? =w.heap[k]?
theorem Mods.refl (S:Nat→Prop)(w:World):Mods S w w:=⟨rfl,rfl,rfl,Nat.le_refl _,fun _ _ _=>rfl⟩
theorem Mods.trans {S:Nat→Prop}{a b c:World}(h:Mods S a b)(k:Mods S b c):Mods S a c:=
 ⟨k.os.trans h.os,k.tape.trans h.tape,k.output.trans h.output,Nat.le_trans h.size k.size,fun i hi hs=>(k.block i (Nat.lt_of_lt_of_le hi h.size) hs).trans (h.block i hi hs)⟩
theorem Mods.mono {S T:Nat→Prop}{w w':World}(h:Mods S w w')(hs: ∀k,k<w.heap.size→S k→T k):Mods T w w':=
 ⟨h.os,h.tape,h.output,h.size,fun k hk ht=>h.block k hk (fun hh=>ht (hs k hk hh))⟩
theorem Mods.then {S T:Nat→Prop}{a b c:World}(h:Mods S a b)(k:Mods T b c)(hs: ∀i,i<a.heap.size→T i→S i):Mods S a c:=
 ⟨k.os.trans h.os,k.tape.trans h.tape,k.output.trans h.output,Nat.le_trans h.size k.size,
  fun i hi hn=>(k.block i (Nat.lt_of_lt_of_le hi h.size) (fun ht=>hn (hs i hi ht))).trans (h.block i hi hn)⟩
theorem Mods.drew {S:Nat→Prop}{a w:World}(h:Mods S a w):Mods S a w.drew:=⟨h.os,h.tape,h.output,h.size,h.block⟩
theorem Mods.alloc {S:Nat→Prop}{a w:World}(h:Mods S a w)(o:Obj):Mods S a (w.alloc o):=
 ⟨h.os,h.tape,h.output,Nat.le_trans h.size (by simp),fun k hk hs=>(Below.heap_alloc w o k (Nat.lt_of_lt_of_le hk h.size)).trans (h.block k hk hs)⟩
theorem Mods.setCell {S:Nat→Prop}{a w:World}(h:Mods S a w){p:Addr}(hp:p.block<a.heap.size→S p.block)(u:Value):Mods S a (w.setCell p u):=
 ⟨h.os,h.tape,h.output,by simpa using h.size,fun k hk hs=>(Below.heap_setCell w p u k (fun e=>hs (e▸hp (e▸hk)))).trans (h.block k hk hs)⟩
theorem Mods.grown {S:Nat→Prop}{a w w':World}{row:Option Nat}(h:Mods S a w)(hg:w.grownBy w' row)(hr: ∀k,row=some k→k<a.heap.size→S k):Mods S a w':=
 ⟨hg.os.trans h.os,hg.tape.trans h.tape,hg.output.trans h.output,Nat.le_trans h.size hg.size,
  fun k hk hs=>(hg.block k (Nat.lt_of_lt_of_le hk h.size) (fun e=>hs (hr k e.symm hk))).trans (h.block k hk hs)⟩
theorem Mods.toBelow {S:Nat→Prop}{w w':World}{B:Nat}(h:Mods S w w')(hB:B≤w.heap.size)(hS: ∀k,S k→B≤k):Below B w w':=
 ⟨h.os,h.tape,h.output,h.size,fun k hk=>h.block k (Nat.lt_of_lt_of_le hk hB) (fun hs=>by have:=hS k hs;omega)⟩
abbrev Ext (w w':World):Prop:=Mods (fun _=>False) w w'
theorem Ext.any {S:Nat→Prop}{w w':World}(h:Ext w w'):Mods S w w':=h.mono (fun _ _ hh=>hh.elim)
theorem Ext.toBelow {w w':World}(h:Ext w w'):Below w.heap.size w w':=Mods.toBelow h (Nat.le_refl _) (fun _ hh=>hh.elim)
theorem Mods.cell {S:Nat→Prop}{w w':World}(h:Mods S w w'){p:Addr}(hp:p.block<w.heap.size)(hs: ¬S p.block):w'.cell? p=w.cell? p:=
 World.cell?_of_block (w:=w) (h.block p.block hp hs)
theorem Mods.frozen {S:Nat→Prop}{w w':World}(h:Mods S w w'){p:Addr}(hp:p.block<w.heap.size)(hs: ¬S p.block):w'.frozen? p=w.frozen? p:=
 World.frozen?_of_block (w:=w) (h.block p.block hp hs)
theorem Ext.cells {w w':World}(h:Ext w w'):(∀b o,b<w.heap.size→w'.cell? ⟨b,o,none⟩=w.cell? ⟨b,o,none⟩)∧(∀b o,b<w.heap.size→w'.frozen? ⟨b,o,none⟩=w.frozen? ⟨b,o,none⟩)∧w.heap.size≤w'.heap.size:=
 ⟨fun b o hb=>h.cell (p:=⟨b,o,none⟩) hb (fun hh=>hh),fun b o hb=>h.frozen (p:=⟨b,o,none⟩) hb (fun hh=>hh),h.size⟩
def rowAt (w:World)(b off:Nat)(xs:List Value):Prop:= ∀j,j<xs.length→w.cell? ⟨b,off+j,none⟩=xs[j]?
def reads (F:Nat→Prop)(w:World)(v:Value)(n:Nat)(xs:List Value):Prop:=
 ∃a cap,v= .slice a n cap∧n≤cap∧cap≤maxLen∧(xs= []∨ ∃b off,a=some ⟨b,off,none⟩∧F b∧rowAt w b off xs)
theorem rowAt.lt {w:World}{b off:Nat}{xs:List Value}(h:rowAt w b off xs)(hx:xs≠ []):b<w.heap.size:=by
 have h0:=h 0 (by cases xs<;>simp_all)
 cases xs with
 |nil=>exact absurd rfl hx
 |cons x r=>exact World.block_lt_of_cell? w ⟨b,off+0,none⟩ (u:=x) (by simpa using h0)
theorem rowAt.mods {S:Nat→Prop}{w w':World}{b off:Nat}{xs:List Value}(h:rowAt w b off xs)(hm:Mods S w w')(hs: ¬S b):rowAt w' b off xs:=fun j hj=>by
 rw[hm.cell (p:=⟨b,off+j,none⟩) (h.lt (by intro e;simp[e]at hj)) hs];exact h j hj
theorem reads.mods {F S:Nat→Prop}{w w':World}{v:Value}{n:Nat}{xs:List Value}(h:reads F w v n xs)(hm:Mods S w w')(hs: ∀b,F b→ ¬S b):reads F w' v n xs:=by
 obtain⟨a,cap,hv,h1,h2,h3⟩:=h
 refine⟨a,cap,hv,h1,h2,h3.imp id ?_⟩
 rintro⟨b,off,ha,hF,hr⟩
 exact⟨b,off,ha,hF,hr.mods hm (hs b hF)⟩
theorem reads.ext {F:Nat→Prop}{w w':World}{v:Value}{n:Nat}{xs:List Value}(h:reads F w v n xs)(hm:Ext w w'):reads F w' v n xs:=
 h.mods hm (fun _ _ hh=>hh)
theorem reads.imp {F G:Nat→Prop}{w:World}{v:Value}{n:Nat}{xs:List Value}(h:reads F w v n xs)(hs: ∀b,b<w.heap.size→F b→G b):reads G w v n xs:=by
 obtain⟨a,cap,hv,h1,h2,h3⟩:=h
 refine⟨a,cap,hv,h1,h2,?_⟩
 rcases h3 with h3|⟨b,off,ha,hF,hr⟩
 ·exact .inl h3
 ·by_cases hx:xs= []
  ·exact .inl hx
  ·exact .inr ⟨b,off,ha,hs b (hr.lt hx) hF,hr⟩
theorem o0o (F:Nat→Prop)(w:World):reads F w (.slice none 0 0) 0 []:=⟨none,0,rfl,Nat.le_refl _,Nat.zero_le _,.inl rfl⟩
theorem h0W {w:World}{base e size n:Nat}{v:Value}{xs:List Value}(h:w.ownsRow base e size v n xs):reads (fun b=>base≤b) w v n xs:=by
 obtain⟨hl,⟨rfl,rfl⟩|⟨g,cap,cur,rfl,hg,hh,h1,h2,hs,hx⟩⟩:=h
 ·have:xs= []:=by cases xs<;>simp_all
  subst this;exact o0o _ _
 ·refine⟨some ⟨g,0,none⟩,cap,rfl,h1,h2,.inr ⟨g,0,rfl,hg,fun j hj=> ?_⟩⟩
  subst hx
  simp only[World.cell?,hh]
  have hj':j<n*size:=by simp at hj;omega
  have hj2:j<cur.size:=by simp at hj;omega
  simp[hj',hj2]
theorem reads.at {F:Nat→Prop}{w:World}{v:Value}{n:Nat}{xs:List Value}(h:reads F w v n xs)(hn:0<xs.length):
  ∃b off cap,v= .slice (some ⟨b,off,none⟩) n cap∧n≤cap∧cap≤maxLen∧F b∧b<w.heap.size∧ ∀j,j<xs.length→w.cell? ⟨b,off+j,none⟩=xs[j]? :=by
 obtain⟨a,cap,hv,h1,h2,h3⟩:=h
 rcases h3 with h3|⟨b,off,rfl,hF,hr⟩
 ·simp[h3]at hn
 ·exact⟨b,off,cap,hv,h1,h2,hF,hr.lt (by intro e;simp[e]at hn),hr⟩
theorem k0d (x y:Int)(yk:IntKind)(h:64≤y):Op.shift .shl .u64 x yk y=pure (.int .u64 0):=by
 have hm:min y.toNat (IntKind.u64.bits)=64:=by simp[IntKind.bits];omega
 have hn: ¬y<0:=by omega
 have hw:IntKind.u64.wrap (x*2^64)=0:=by rw[IntKind.wrap_u64];exact Int.mul_emod_left _ _
 simp only[Op.shift,if_neg hn,hm,hw]
abbrev d0g:=Value→World→Prop
def NoQ:Exit→Act→World→Prop:=fun _ _ _=>False
def r0P (done:List (Tmp×d0g))(ts:List Tmp)(A:Act)(W:World):Prop:= ∀p∈done,p.1∈ts→p.2 (A.eval (.tmp p.1)) W
def r0O (done:List (Tmp×d0g))(ts:List Tmp)(a A:Act):Prop:=A.tmps.size=a.tmps.size∧ ∀t∈ts,t∉done.map (·.1)→A.eval (.tmp t)=a.eval (.tmp t)
def c0N (P:Program)(ops:Array Oper)(o:Oper)(A:Act)(W:World)(post:Value→World→Prop):Prop:=
 if Region.wanted o (yielded ops A.tmps)then o.wp P A W (fun A' W'=> ∃v,A'=A.put o.dst v∧post v W') NoQ else post undef W
def j0Q (φ:d0g):Prop:= ∀v W W',φ v W→Ext W W'→φ v W'
theorem g0a (c:Value):j0Q (fun v _=>v=c):=fun _ _ _ h _=>h
def j0S (P:Program)(ops:Array Oper)(w0:World)(a:Act)(K:List (Tmp×d0g)→Prop):List (Tmp×d0g)→List Oper→Prop
 |done,[]=>K done
 | done,o::rest=> ∃(d:Tmp) (φ:d0g),o.dst=some d∧j0Q φ∧
   (∀A W,Ext w0 W→r0P done (o.looksAt ops) A W→r0O done (o.looksAt ops) a A→c0N P ops o A W (fun v W'=>Ext W W'∧φ v W'))∧
   j0S P ops w0 a K ((d,φ)::done) rest
def b0z (a:Act)(f:Tmp→Value):List Tmp→Act
 | []=>a
 |t::ts=>(b0z a f ts).put (some t) (f t)
def c0u (ops:Array Oper)(n i:Nat)(o:Oper):Bool:=
 let waits:=fun j=>o.after.any fun e=>Region.binds .any e&&e.on==j
 (match o.op with| .select .. =>false|_=>true)&&(o.after.all fun e=> !Region.binds .any e||decide (e.on<i))&&
 if i<n then
  o.dst.isSome&&
  (List.range n).all (fun j=>j==i||((ops[j]?).all fun oj=>(match oj.dst with|some d=>o.dst !=some d&&(!(o.looksAt ops).contains d||(decide (j<i)&&waits j))|none=>true)))
 else(List.range i).all waits
def g0u (ops:Array Oper)(n:Nat):Bool:=decide (n≤ops.size)&&(List.range ops.size).all fun i=>(ops[i]?).all fun o=>c0u ops n i o
section
variable {P:Program}{ops:Array Oper}{Q:Exit→Act→World→Prop}{a:Act}{w0:World}
theorem a0Z {o:Oper}{A:Act}{W:World}{K:Act→World→Prop}(h:o.wp P A W K NoQ):o.wp P A W K Q:=by
  unfold Oper.wp at*
  generalize(execOp A.eval o).run P W=r at*
  cases r with
  | ok n w'=>
    cases n<;>simp only[Oper.upon]at h⊢ <;>first
      |exact h
      | (refine Calls.mono h fun e w'' he=> ?_
         cases e with
         |returned v=>exact he
         |panicked c=>exact(he:False).elim
         |outgrown=>obtain⟨_,_,hh⟩:=he;exact(hh:False).elim)
  |halt x w'=>cases x<;>simp only[Oper.upon]at h⊢ <;>first|exact h|exact(h:False).elim
def u0r (P:Program)(ops:Array Oper)(w0:World)(a:Act)(n:Nat)(Φ:Nat→d0g)(D:Nat→Tmp):Prop:=
 ∀ i,i<n→ ∀o,ops[i]? =some o→o.dst=some (D i)∧j0Q (Φ i)∧
  ∀A W,Ext w0 W→A.tmps.size=a.tmps.size→(∀j,j<i→D j∈o.looksAt ops→Φ j (A.eval (.tmp (D j))) W)→(∀t∈o.looksAt ops,(∀j,j<i→D j≠t)→A.eval (.tmp t)=a.eval (.tmp t))→
   c0N P ops o A W (fun v W'=>Ext W W'∧Φ i v W')
theorem i0o {K:List (Tmp×d0g)→Prop}: ∀(l:List Oper) (k:Nat) (done:List (Tmp×d0g)) (Φ:Nat→d0g) (D:Nat→Tmp),
  done=((List.range k).map fun i=>(D i,Φ i)).reverse→(∀j,l[j]? =if j<l.length then ops[k+j]?else none)→j0S P ops w0 a K done l→
  ∃ (Φ':Nat→d0g) (D':Nat→Tmp),(∀i,i<k→Φ' i=Φ i∧D' i=D i)∧K ((List.range (k+l.length)).map fun i=>(D' i,Φ' i)).reverse∧
   ∀ i,k≤i→i<k+l.length→ ∀o,ops[i]? =some o→o.dst=some (D' i)∧j0Q (Φ' i)∧
    ∀A W,Ext w0 W→A.tmps.size=a.tmps.size→(∀j,j<i→D' j∈o.looksAt ops→Φ' j (A.eval (.tmp (D' j))) W)→(∀t∈o.looksAt ops,(∀j,j<i→D' j≠t)→A.eval (.tmp t)=a.eval (.tmp t))→
     c0N P ops o A W (fun v W'=>Ext W W'∧Φ' i v W'):=by
 intro l
 induction l with
 |nil=>
  intro k done Φ D hd _ h
  exact⟨Φ,D,fun _ _=>⟨rfl,rfl⟩,by simpa[j0S,hd]using h,fun i h1 h2=>by simp at h2;omega⟩
 | cons o rest ih=>
  intro k done Φ D hd hl h
  obtain⟨d,φ,ho,hst,hstep,hrest⟩:=h
  have h0:ops[k]? =some o:=by have:=hl 0;simpa using this.symm
  have hd':(d,φ)::done=((List.range (k+1)).map fun i=>((fun i=>if i=k then d else D i) i,(fun i=>if i=k then φ else Φ i) i)).reverse:=by
   rw[List.range_succ,List.map_append,List.reverse_append]
   simp only[List.map_cons,List.map_nil,List.reverse_singleton,if_true,List.singleton_append]
   rw[hd]
   congr 2
   apply List.map_congr_left
   intro i hi
   have:i≠k:=by have:=List.mem_range.1 hi;omega
   simp[this]
  obtain⟨Φ',D',hsame,hK,hall⟩:=ih (k+1) _ _ _ hd' (fun j=>by have:=hl (j+1);simpa[Nat.add_assoc,Nat.add_comm 1 j]using this) hrest
  have hk:=hsame k (by omega)
  simp only[if_true]at hk
  have hlt: ∀i,i<k→Φ' i=Φ i∧D' i=D i:=fun i hi=>by
   have:=hsame i (by omega)
   have hne:i≠k:=by omega
   simpa[hne]using this
  refine⟨Φ',D',hlt,by rw[show k+(o::rest).length=k+1+rest.length by simp;omega];exact hK,fun i h1 h2 o' ho'=> ?_⟩
  by_cases hik:i=k
  ·subst hik
   obtain rfl:o=o':=by rw[h0]at ho';exact Option.some.inj ho'
   rw[hk.1,hk.2]
   refine⟨ho,hst,fun A W hW hsz hF hO=>hstep A W hW ?_ ⟨hsz,?_⟩⟩
   ·intro p hp hpt
    rw[hd,List.mem_reverse,List.mem_map]at hp
    obtain⟨j,hj,rfl⟩:=hp
    have hji:=List.mem_range.1 hj
    have:=hF j hji
    rw[(hlt j hji).1,(hlt j hji).2]at this
    exact this hpt
   ·intro t ht htd
    refine hO t ht fun j hj=> ?_
    rw[(hlt j hj).2]
    intro e
    apply htd
    rw[hd,List.mem_map]
    exact⟨(D j,Φ j),by rw[List.mem_reverse,List.mem_map];exact⟨j,List.mem_range.2 hj,rfl⟩,e⟩
  ·exact hall i (by omega) (by simp at h2;omega) o' ho'
theorem e0i {α:Type}{xs:Array α}{p:α→Bool}(h:xs.any p=true): ∃x∈xs,p x=true:=by
 rw[←Array.any_toList]at h
 obtain⟨x,hx,hp⟩:=List.any_eq_true.1 h
 exact⟨x,by simpa using hx,hp⟩
theorem d0u {n:Nat}(h:g0u ops n=true){i:Nat}{o:Oper}(ho:ops[i]? =some o):c0u ops n i o=true:=by
 simp only[g0u,Bool.and_eq_true,List.all_eq_true,List.mem_range]at h
 have hi:i<ops.size:=(Array.getElem?_eq_some_iff.1 ho).1
 have:=h.2 i hi
 rw[ho]at this
 simpa using this
theorem j0s {n i:Nat}{o:Oper}(h:c0u ops n i o=true): ∀e∈o.after,Region.binds .any e=true→e.on<i:=by
 intro e he hb
 simp only[c0u,Bool.and_eq_true]at h
 have:=Array.all_eq_true_iff_forall_mem.1 h.1.2 e he
 simpa[hb]using this
theorem p0n {n i j:Nat}{o oj:Oper}{d e:Tmp}(h:c0u ops n i o=true)(hi:i<n)(hj:j<n)(hne:j≠i)(ho:ops[j]? =some oj)(hd:oj.dst=some d)(he:o.dst=some e):
  d≠e∧(d∈o.looksAt ops→j<i∧ ∃x∈o.after,Region.binds .any x=true∧x.on=j):=by
 simp only[c0u,Bool.and_eq_true,if_pos hi,List.all_eq_true,List.mem_range]at h
 have:=h.2.2 j hj
 rw[ho]at this
 simp only[hd,he,Option.all_some,Bool.or_eq_true,beq_iff_eq,hne,false_or,Bool.and_eq_true,bne_iff_ne,ne_eq,Option.some.injEq,Bool.not_eq_true',List.contains_eq_mem,cQ,decide_eq_false_iff_not]at this
 refine⟨fun e'=>this.1 e'.symm,fun hm=> ?_⟩
 rcases this.2 with h1|⟨h1,h2⟩
 ·exact absurd hm h1
 ·obtain⟨x,hx,hx2⟩:=e0i h2
  simp only[Bool.and_eq_true,beq_iff_eq]at hx2
  exact⟨h1,x,hx,hx2.1,hx2.2⟩
theorem j0r {n i:Nat}{o:Oper}(h:c0u ops n i o=true)(hi:n≤i): ∀j,j<i→ ∃x∈o.after,Region.binds .any x=true∧x.on=j:=by
 intro j hj
 simp only[c0u,Bool.and_eq_true,if_neg (show ¬i<n by omega),List.all_eq_true,List.mem_range]at h
 obtain⟨x,hx,hx2⟩:=e0i (h.2 j hj)
 simp only[Bool.and_eq_true,beq_iff_eq]at hx2
 exact⟨x,hx,hx2.1,hx2.2⟩
theorem h0b {n:Nat}(hok:g0u ops n=true): ∀(fuel m:Nat) (listed:Array Bool) (A:Act) (W:World),m+fuel=ops.size→n≤m→listed.size=ops.size→
  (∀i,i<ops.size→listed.getD i false=decide (i<m))→wpList P ops Q (ops.toList.drop m) A W→wpAny P .any ops Q fuel listed A W:=by
 intro fuel
 induction fuel with
 |zero=>
  intro m listed A W hm hn hs hl h
  have hd:ops.toList.drop m= []:=List.drop_eq_nil_of_le (by simp;omega)
  rw[hd]at h
  refine⟨?_,h⟩
  rw[List.eq_nil_iff_forall_not_mem]
  intro i hi
  obtain⟨h0,o,ho,_⟩:=mem_ready.1 hi
  have hi':i<ops.size:=(Array.getElem?_eq_some_iff.1 ho).1
  have:=hl i hi'
  have hi2:i<listed.size:=by omega
  simp[Array.getD,hi2]at h0 this
  rw[h0]at this
  simp at this
  omega
 | succ fuel ih=>
  intro m listed A W hm hn hs hl h
  have hlt:m<ops.size:=by omega
  have hd:ops.toList.drop m=ops[m]::ops.toList.drop (m+1):=by
   rw[List.drop_eq_getElem_cons (by simpa using hlt)];simp
  rw[hd]at h
  have hom:ops[m]? =some ops[m]:=by simp[hlt]
  have hsz:m<listed.size:=by omega
  have hmr:m∈Region.ready .any ops listed:=mem_ready.2 ⟨by
    have:=hl m hlt
    simp[Array.getD,hsz]at this⊢
    exact this,ops[m],hom,fun e he hb=>by
    have h1:=j0s (d0u hok hom) e he hb
    have:=hl e.on (by omega)
    rw[this];simpa using h1⟩
  refine⟨fun e=>(by rw[e]at hmr;cases hmr),fun i hi=> ?_⟩
  have him:i=m:=by
   obtain⟨h0,o,ho,hall⟩:=mem_ready.1 hi
   have hi':i<ops.size:=(Array.getElem?_eq_some_iff.1 ho).1
   have hi2:i<listed.size:=by omega
   have hge:m≤i:=by
    have:=hl i hi'
    simp[Array.getD,hi2]at h0 this
    rw[h0]at this
    simpa using this
   rcases Nat.eq_or_lt_of_le hge with e|hgt
   ·exact e.symm
   ·obtain⟨x,hx,hxb,hxo⟩:=j0r (d0u hok ho) (by omega) m hgt
    have:=hall x hx hxb
    rw[hxo,hl m hlt]at this
    simp at this
  subst him
  unfold wpOp
  rw[hom]
  have hK: ∀A' W',wpList P ops Q (ops.toList.drop (i+1)) A' W'→wpAny P .any ops Q fuel (listed.setIfInBounds i true) A' W':=fun A' W' h'=>
   ih (i+1) _ A' W' (by omega) (by omega) (by simpa using hs) (fun j hj=>by
    by_cases hji:j=i
    ·subst hji;simp[Array.getD,hsz]
    ·rw[getD_set_ne false (Ne.symm hji),hl j hj]
     simp;omega) h'
  simp only[wpList]at h⊢
  split
  ·rename_i hw;rw[if_pos hw]at h;exact h.imp (Oper.wp_mono hK) id
  ·rename_i hw;rw[if_neg hw]at h;exact hK _ _ h
theorem a0t {A:Act}{d:Tmp}{v:Value}(h:d<A.tmps.size):(A.put (some d) v).eval (.tmp d)=v:=by
 simp[Act.eval,Act.put,h]
theorem a0d {A:Act}{d t:Tmp}{v:Value}(h:d≠t):(A.put (some d) v).eval (.tmp t)=A.eval (.tmp t):=
 Act.eval_put fun d' hd e=>h (by cases hd;injection e with e;exact e.symm)
theorem a0T (l:List Bool)(i:Nat)(h:i<l.length)(hf:l[i]=false):(l.set i true).count false+1=l.count false:=by
 rw[List.count_set h,hf]
 have:0<l.count false:=List.count_pos_iff.2 (hf▸List.getElem_mem h)
 simp;omega
theorem m0P {p:Nat→Prop}(h: ∃i,p i): ∃i,p i∧ ∀j,j<i→ ¬p j:=by
 obtain⟨i,hi⟩:=h
 induction i using Nat.strongRecOn with
 | _ i ih=>
  by_cases hj: ∃j,j<i∧p j
  ·obtain⟨j,h1,h2⟩:=hj
   exact ih j h1 h2
  ·exact⟨i,hi,fun j h1 h2=>hj ⟨j,h1,h2⟩⟩
structure FInv (ops:Array Oper) (w0:World) (a:Act) (n:Nat) (Φ:Nat→d0g) (D:Nat→Tmp) (listed:Array Bool) (A:Act) (W:World):Prop where
 size:listed.size=ops.size
 late: ∀i,n≤i→listed.getD i false=false
 ext:Ext w0 W
 tmps:A.tmps.size=a.tmps.size
 defers:A.defers=a.defers
 has: ∀i,i<n→listed.getD i false=true→Φ i (A.eval (.tmp (D i))) W
 out: ∀t,(∀i,i<n→listed.getD i false=true→D i≠t)→A.eval (.tmp t)=a.eval (.tmp t)
theorem b0a {listed:Array Bool}{i:Nat}(h:i<listed.size):listed.getD i true=listed.getD i false:=by simp[Array.getD,h]
theorem m0l {n:Nat}{Φ:Nat→d0g}{D:Nat→Tmp}(hok:g0u ops n=true)(hn:n≤ops.size)(hD: ∀i,i<n→D i<a.tmps.size)(hall:u0r P ops w0 a n Φ D)
  (hend: ∀A W,Ext w0 W→A.tmps.size=a.tmps.size→A.defers=a.defers→(∀i,i<n→Φ i (A.eval (.tmp (D i))) W)→(∀t,(∀i,i<n→D i≠t)→A.eval (.tmp t)=a.eval (.tmp t))→
   wpList P ops Q (ops.toList.drop n) A W):
  ∀(fuel:Nat) (listed:Array Bool) (A:Act) (W:World),fuel=listed.toList.count false→FInv ops w0 a n Φ D listed A W→wpAny P .any ops Q fuel listed A W:=by
 intro fuel
 induction fuel with
 | zero=>
  intro listed A W hc hI
  have hlt: ∀i,i<ops.size→listed.getD i false=true:=by
   intro i hi
   have hi':i<listed.size:=by rw[hI.size];exact hi
   cases hb:listed.getD i false with
   |true=>rfl
   | false=>
    exfalso
    have hm:false∈listed.toList:=by
     rw[←hb];simp[Array.getD,hi']
    have:=List.count_pos_iff.2 hm
    omega
  have hnn:n=ops.size:=by
   rcases Nat.lt_or_ge n ops.size with h|h
   ·have:=hI.late n (Nat.le_refl _);rw[hlt n h]at this;cases this
   ·omega
  have hw:=hend A W hI.ext hI.tmps hI.defers (fun i hi=>hI.has i hi (hlt i (by omega))) (fun t ht=>hI.out t fun i hi _=>ht i hi)
  exact h0b hok 0 n listed A W (by omega) (Nat.le_refl _) hI.size (fun i hi=>by rw[hlt i hi];simp;omega) hw
 | succ fuel ih=>
  intro listed A W hc hI
  by_cases hdone: ∀i,i<n→listed.getD i false=true
  ·have hw:=hend A W hI.ext hI.tmps hI.defers (fun i hi=>hI.has i hi (hdone i hi)) (fun t ht=>hI.out t fun i hi _=>ht i hi)
   refine h0b hok (fuel+1) n listed A W ?_ (Nat.le_refl _) hI.size (fun i hi=> ?_) hw
   ·have hl:listed.toList=List.replicate n true++List.replicate (ops.size-n) false:=by
     apply List.ext_getElem
     ·simp[hI.size];omega
     ·intro i h1 h2
      have h1':i<listed.size:=by simpa using h1
      have e:listed.toList[i]=listed.getD i false:=by simp[Array.getD,h1']
      rw[e]
      by_cases hin:i<n
      ·rw[hdone i hin,List.getElem_append_left (by simpa using hin)];simp
      ·rw[hI.late i (by omega),List.getElem_append_right (by simp;omega)];simp
    rw[hl,List.count_append]at hc
    simp[List.count_replicate]at hc
    omega
   ·by_cases hin:i<n
    ·rw[hdone i hin];simp[hin]
    ·rw[hI.late i (by omega)];simp[hin]
  ·have hne: ∃i,i∈Region.ready .any ops listed:=by
    have hex: ∃i,i<n∧listed.getD i false=false:=by
     refine Classical.byContradiction fun hno=>hdone fun i hi=> ?_
     cases hb:listed.getD i false with
     |true=>rfl
     |false=>exact absurd ⟨i,hi,hb⟩ hno
    obtain⟨i,⟨hi,hf⟩,hmin⟩: ∃i,(i<n∧listed.getD i false=false)∧ ∀j,j<i→ ¬(j<n∧listed.getD j false=false):=by
     obtain⟨i,h⟩:=hex
     exact m0P ⟨i,h⟩
    have hio:ops[i]? =some ops[i]:=by simp[show i<ops.size by omega]
    refine⟨i,mem_ready.2 ⟨by rw[b0a (by rw[hI.size];omega)];exact hf,_,hio,fun e he hb=> ?_⟩⟩
    have:=j0s (d0u hok hio) e he hb
    cases hb2:listed.getD e.on false with
    |true=>rfl
    |false=>exact absurd ⟨by omega,hb2⟩ (hmin e.on this)
   refine⟨fun e=>(by obtain⟨i,hi⟩:=hne;rw[e]at hi;cases hi),fun i hi=> ?_⟩
   obtain⟨h0,o,ho,hdeps⟩:=mem_ready.1 hi
   have hio:i<ops.size:=(Array.getElem?_eq_some_iff.1 ho).1
   have hf:listed.getD i false=false:=by rw[←b0a (by rw[hI.size];exact hio)];exact h0
   have hin:i<n:=by
    refine Classical.byContradiction fun hge=>hdone fun j hj=> ?_
    obtain⟨x,hx,hxb,hxo⟩:=j0r (d0u hok ho) (by omega) j (by omega)
    rw[←hxo];exact hdeps x hx hxb
   obtain⟨hdst,hst,hstep⟩:=hall i hin o ho
   have hpair: ∀j,j<n→j≠i→D j≠D i∧(D j∈o.looksAt ops→j<i∧listed.getD j false=true):=by
    intro j hj hji
    have hoj:ops[j]? =some ops[j]:=by simp[show j<ops.size by omega]
    obtain⟨h1,h2⟩:=p0n (d0u hok ho) hin hj hji hoj (hall j hj _ hoj).1 hdst
    refine⟨h1,fun hm=> ?_⟩
    obtain⟨h3,x,hx,hxb,hxo⟩:=h2 hm
    exact⟨h3,by rw[←hxo];exact hdeps x hx hxb⟩
   have hs:=hstep A W hI.ext hI.tmps (fun j hj hm=>hI.has j (by omega) ((hpair j (by omega) (by omega)).2 hm).2) (fun t ht htd=>hI.out t fun j hj hlj e=>by
    subst e
    by_cases hji:j=i
    ·subst hji;rw[hf]at hlj;cases hlj
    ·exact htd j ((hpair j hj hji).2 ht).1 rfl)
   have hnext: ∀v W',Ext W W'∧Φ i v W'→wpAny P .any ops Q fuel (listed.setIfInBounds i true) (A.put o.dst v) W':=by
    intro v W' ⟨hE,hφ⟩
    have hil:i<listed.size:=by rw[hI.size];exact hio
    have hDi:D i<A.tmps.size:=by rw[hI.tmps];exact hD i hin
    refine ih _ _ _ ?_ ⟨by simpa using hI.size,?_,hI.ext.trans hE,?_,?_,?_,?_⟩
    ·have hcs:=a0T listed.toList i (by simpa using hil) (by simpa[Array.getD,hil]using hf)
     simp only[Array.toList_setIfInBounds]
     omega
    ·intro j hj
     rw[getD_set_ne false (show i≠j by omega)];exact hI.late j hj
    ·rw[hdst];simp[Act.put,hI.tmps]
    ·rw[hdst];simp[Act.put,hI.defers]
    ·intro j hj hlj
     rw[hdst]
     by_cases hji:j=i
     ·subst hji;rw[a0t hDi];exact hφ
     ·rw[getD_set_ne false (Ne.symm hji)]at hlj
      rw[a0d (Ne.symm (hpair j hj hji).1)]
      have hoj:ops[j]? =some ops[j]:=by simp[show j<ops.size by omega]
      exact(hall j hj _ hoj).2.1 _ _ _ (hI.has j hj hlj) hE
    ·intro t ht
     rw[hdst]
     have hti:D i≠t:=ht i hin (by simp[Array.getD,hil])
     rw[a0d hti]
     refine hI.out t fun j hj hlj=>ht j hj ?_
     by_cases hji:j=i
     ·subst hji;simp[Array.getD,hil]
     ·rw[getD_set_ne false (Ne.symm hji)];exact hlj
   unfold wpOp
   rw[ho]
   unfold c0N at hs
   show if Region.wanted o (yielded ops A.tmps)=true then _ else _
   split
   ·rename_i hw
    rw[if_pos hw]at hs
    refine .inl (Oper.wp_mono ?_ (a0Z hs))
    rintro A' W' ⟨v,rfl,hp⟩
    exact hnext v W' hp
   ·rename_i hw
    rw[if_neg hw]at hs
    exact hnext _ _ hs
theorem b0M (a:Act)(f:Tmp→Value)(ts:List Tmp):(b0z a f ts).tmps.size=a.tmps.size:=by
 induction ts with
 |nil=>rfl
 |cons t ts ih=>simp[b0z,Act.put,ih]
theorem c0X (a:Act)(f:Tmp→Value)(ts:List Tmp):(b0z a f ts).defers=a.defers:=by
 induction ts with
 |nil=>rfl
 |cons t ts ih=>simp[b0z,Act.put,ih]
theorem c0W (a:Act)(f:Tmp→Value)(ts:List Tmp)(t:Tmp):(b0z a f ts).eval (.tmp t)=if t∈ts∧t<a.tmps.size then f t else a.eval (.tmp t):=by
 induction ts with
 |nil=>simp[b0z]
 | cons u ts ih=>
  by_cases h:u=t
  ·subst h
   by_cases hs:u<a.tmps.size
   ·rw[b0z,a0t (by rw[b0M];exact hs)];simp[hs]
   ·rw[if_neg (by simp[hs])]
    have h1:(b0z a f (u::ts)).tmps.size=a.tmps.size:=b0M _ _ _
    simp[Act.eval,Array.getD,h1,hs]
  ·rw[b0z,a0d h,ih]
   simp[Ne.symm h]
theorem i0C {A B:Act}(h1:A.tmps.size=B.tmps.size)(h2:A.defers=B.defers)(h: ∀t,A.eval (.tmp t)=B.eval (.tmp t)):A=B:=by
 obtain⟨x,d⟩:=A
 obtain⟨y,e⟩:=B
 simp only at h1 h2
 subst h2
 congr 1
 apply Array.ext h1
 intro i hi hj
 have:=h i
 simpa[Act.eval,Array.getD,hi,hj]using this
theorem g0V {id:Nat}{l:List Oper}{a:Act}{w0:World}(n:Nat)(hm:P.follows .mixedOrders=true)(hok:g0u l.toArray n=true)
  (hs:(l.take n).all (fun o=>o.dst.all fun d=>decide (d<a.tmps.size))=true)
  (h:j0S P l.toArray w0.drew a (fun done=> ∀(f:Tmp→Value) W,Ext w0.drew W→(∀p∈done,p.2 (f p.1) W)→wpList P l.toArray Q (l.drop n) (b0z a f (done.map (·.1))) W) [] (l.take n)):
  (Code.region id l.toArray true).wp P Q a w0:=by
 have hn:n≤l.length:=by
  simp only[g0u,Bool.and_eq_true,cQ]at hok
  simpa using hok.1
 have hlen:(l.take n).length=n:=by simp[hn]
 obtain⟨Φ,D,_,hK,hall⟩:=i0o (l.take n) 0 [] (fun _ _ _=>True) (fun _=>0) rfl (fun j=>by
  rw[hlen]
  by_cases hj:j<n
  ·simp[hj]
  ·rw[if_neg hj];exact List.getElem?_eq_none (by rw[hlen];omega)) h
 rw[Nat.zero_add,hlen]at hK
 have hD: ∀i,i<n→D i<a.tmps.size:=by
  intro i hi
  have hio:l.toArray[i]? =some l[i]:=by simp[show i<l.length by omega]
  have h1:=(hall i (Nat.zero_le _) (by rw[hlen];omega) _ hio).1
  have:=List.all_eq_true.1 hs l[i] (List.mem_take_iff_getElem.2 ⟨i,by omega,rfl⟩)
  rw[h1]at this
  simpa using this
 refine wp_region_any hm (m0l (n:=n) (Φ:=Φ) (D:=D) (w0:=w0.drew) (a:=a) hok (by simpa using hn) hD
  (fun i hi o ho=>hall i (Nat.zero_le _) (by rw[hlen];omega) o ho) ?_ _ _ _ _ ?_ ⟨by simp,?_,Mods.refl _ _,rfl,rfl,?_,fun _ _=>rfl⟩)
 ·intro A W hE hsz hdf hhas hout
  have hw:=hK (fun t=>A.eval (.tmp t)) W hE (fun p hp=>by
   rw[List.mem_reverse,List.mem_map]at hp
   obtain⟨i,hi,rfl⟩:=hp
   exact hhas i (List.mem_range.1 hi))
  have hA:b0z a (fun t=>A.eval (.tmp t)) ((((List.range n).map fun i=>(D i,Φ i)).reverse).map (·.1))=A:=by
   refine i0C (by rw[b0M,hsz]) (by rw[c0X,hdf]) fun t=> ?_
   rw[c0W]
   split
   ·rfl
   ·rename_i hno
    by_cases ht:t<a.tmps.size
    ·refine(hout t fun i hi e=>hno ⟨?_,ht⟩).symm
     rw[List.mem_map]
     exact⟨(D i,Φ i),by rw[List.mem_reverse,List.mem_map];exact⟨i,List.mem_range.2 hi,rfl⟩,e⟩
    ·simp[Act.eval,Array.getD,ht,hsz]
  rw[hA]at hw
  simpa using hw
 ·simp
 ·intro i hi
  by_cases h:i<l.length<;>simp[Array.getD,h]
 ·intro i hi hl
  by_cases h:i<l.length<;>simp[Array.getD,h]at hl
section
variable {K:List (Tmp×d0g)→Prop}{done:List (Tmp×d0g)}{o:Oper}{rest:List Oper}{d:Tmp}
end
structure SW (w0:World) where
 w:World
 h:Ext w0 w
instance (w0:World):Inhabited (SW w0):=⟨⟨w0,Mods.refl _ _⟩⟩
theorem i0r {P:Program}{f:FuncId}{args:Array Value}{w:World}{c:Value}(h:Calls P f args w fun e w'=>e= .returned c∧w=w'):Calls P f args w fun e w'=>e= .returned c∧Ext w w':=
 h.mono fun _ _ ⟨h1,h2⟩=>⟨h1,h2▸Mods.refl _ _⟩
def y0z (w0:World):World→Prop:=fun w=> ∃x:SW w0,w=x.w
theorem SW.cell {w0:World}(x:SW w0)(b o:Nat)(h:b<w0.heap.size):x.w.cell? ⟨b,o,none⟩=w0.cell? ⟨b,o,none⟩:=x.h.cell (p:=⟨b,o,none⟩) h (fun hh=>hh)
theorem SW.frozen {w0:World}(x:SW w0)(b o:Nat)(h:b<w0.heap.size):x.w.frozen? ⟨b,o,none⟩=w0.frozen? ⟨b,o,none⟩:=x.h.frozen (p:=⟨b,o,none⟩) h (fun hh=>hh)
@[go_sem] theorem SW.cellD {w0:World} (x:SW w0.drew) (b o:Nat) (h:b<w0.heap.size):x.w.cell? ⟨b,o,none⟩=w0.cell? ⟨b,o,none⟩:=x.cell b o h
@[go_sem] theorem SW.frozenD {w0:World} (x:SW w0.drew) (b o:Nat) (h:b<w0.heap.size):x.w.frozen? ⟨b,o,none⟩=w0.frozen? ⟨b,o,none⟩:=x.frozen b o h
theorem SW.call {w0:World}{x:SW w0}{f:FuncId}{args:Array Value}{v:Value}(h:Calls P f args x.w fun e w'=>e= .returned v∧Ext x.w w'):
  Calls P f args x.w fun e w''=>e= .returned v∧ ∃y:SW w0,w''=y.w:=h.mono fun e w' ⟨he,hE⟩=>⟨he,⟨w',x.h.trans hE⟩,rfl⟩
def e0e (o:Oper):Bool:=
 match o.op with
 | .move _| .assign _| .load .. | .binOp .. | .unOp .. | .convert .. | .field .. | .fieldAddr .. | .index .. | .indexAddr .. | .slice .. | .build .. | .extract .. | .makeInterface .. | .lookup .. | .pick .. =>true
 | .call {callee:= .builtin .len,..}| .call {callee:= .builtin .cap,..}| .call {callee:= .builtin .min,..}| .call {callee:= .builtin .max,..}=>true
 |_=>false
theorem h0i {α:Type}{s:Sem α}{g:α→Value}{W W':World}{f:FuncId}{args:Array Value}:Sem.run P (s.bind fun v=>Sem.pure (Next.value (g v))) W≠ .ok (.enter f args) W':=by
 rw[Sem.run_bind']
 cases Sem.run P s W with
 |ok v w=>intro h;simp[Sem.run]at h
 |halt x w=>intro h;simp at h
theorem g0k {o:Oper}(h:e0e o=true)(ρ:Operand→Value){W W':World}{f:FuncId}{args:Array Value}:(execOp ρ o).run P W≠ .ok (.enter f args) W':=by
 unfold e0e at h
 unfold execOp
 split at h
 all_goals first
  |(cases h;done)
  |(rename_i e;rw[e];first|exact h0i (g:=fun v=>v)|exact h0i (s:=asBool _) (g:=fun b=>if b=true then _ else _)|(intro hh;simp[Sem.run,Pure.pure]at hh;done)|exact h0i (s:=Builtin.len_ ..) (g:=fun v=>v)|exact h0i (s:=Builtin.cap_ ..) (g:=fun v=>v)|exact h0i (s:=Builtin.min_ ..) (g:=fun v=>v)|exact h0i (s:=Builtin.max_ ..) (g:=fun v=>v))
def m0V (ops:Array Oper)(rels:List (Tmp×d0g))(o:Oper):Bool:=(match o.op with| .select .. =>false|_=>true)&&rels.all fun p=> !(o.looksAt ops).contains p.1&&o.dst !=some p.1
def FlowX (P:Program)(ops:Array Oper)(w0:World)(E:Act→List (Tmp×d0g)→Prop):List (Tmp×d0g)→List Oper→Act→Prop
 |rels,[],a=>E a rels
 | rels,o::rest,a=>
  (m0V ops rels o=true∧e0e o=true∧if Region.wanted o (yielded ops a.tmps)then o.quiet P a (y0z w0) (FlowX P ops w0 E rels rest)else FlowX P ops w0 E rels rest (a.put o.dst undef))∨
  (m0V ops rels o=true∧ ∃c,Region.wanted o (yielded ops a.tmps)=true∧(∀x:SW w0,o.wp P a x.w (fun A' W'=>A'=a.put o.dst c∧Ext x.w W') NoQ)∧FlowX P ops w0 E rels rest (a.put o.dst c))∨
  (∃(d:Tmp) (φ:d0g),o.dst=some d∧rels.all (fun p=>d !=p.1)=true∧j0Q φ∧
   (∀A W,Ext w0 W→(∀t∈o.looksAt ops,(∀p∈rels,p.1≠t)→A.eval (.tmp t)=a.eval (.tmp t))→(∀p∈rels,p.1∈o.looksAt ops→p.2 (A.eval (.tmp p.1)) W)→
    c0N P ops o A W (fun v W'=>Ext W W'∧φ v W'))∧FlowX P ops w0 E ((d,φ)::rels) rest a)
theorem FlowX.seg {E:Act→List (Tmp×d0g)→Prop}{rels:List (Tmp×d0g)}{rest:List Oper}: ∀(l:List Oper) (a:Act),l.all (fun o=>m0V ops rels o&&e0e o)=true→
  wpQuiet P ops (fun w=> ∃x:SW w0,w=x.w) (FlowX P ops w0 E rels rest) l a→FlowX P ops w0 E rels (l++rest) a
 | [],_,_,h=>h
 | o::l,a,hf,h=>by
  simp only[List.all_cons,Bool.and_eq_true]at hf
  refine .inl ⟨hf.1.1,hf.1.2,?_⟩
  unfold wpQuiet at h
  split
  ·rename_i hw;rw[if_pos hw]at h
   exact Oper.quiet_mono (fun a' h'=>FlowX.seg l a' hf.2 h') h
  ·rename_i hw;rw[if_neg hw]at h
   exact FlowX.seg l _ hf.2 h
theorem b0P {f:FuncId}{fn:Func}{xs:Array Operand}{ats:Array TypeId}{o:Oper}{A:Act}(hop:o.op= .call {callee:= .value (.func f),args:=xs,argTypes:=ats})(hfn:P.funcs[f]? =some fn)(hn:(fn.name== "runtime.NumGoroutine")=false)(hb:fn.body.isNone=false)(w:World):
  (execOp A.eval o).run P w= .ok (.enter f (xs.map A.eval)) w:=by
 obtain⟨dst,op,ty,pos,after,guard⟩:=o
 simp only at hop
 subst hop
 rw[execOp_call_go]
 show Sem.run P (callFunc f _) w=_
 unfold callFunc
 have hn': ¬fn.name= "runtime.NumGoroutine" :=by simpa using hn
 have hb': ¬fn.body=none:=by intro e;rw[e]at hb;cases hb
 simp[hfn,hn',hb']
theorem FlowX.call {E:Act→List (Tmp×d0g)→Prop}{rels:List (Tmp×d0g)}{rest:List Oper}{o:Oper}{a:Act}{c:Value}{f:FuncId}{fn:Func}{xs:Array Operand}{ats:Array TypeId}{args:Array Value}
  (hop:o.op= .call {callee:= .value (.func f),args:=xs,argTypes:=ats}) (hfn:P.funcs[f]? =some fn) (hn:(fn.name== "runtime.NumGoroutine")=false) (hb:fn.body.isNone=false)
  (hf:m0V ops rels o=true) (hw:Region.wanted o (yielded ops a.tmps)=true) (hc: ∀x:SW w0,Calls P f args x.w fun e W'=>e= .returned c∧Ext x.w W') (hargs:xs.map a.eval=args)
  (hr:FlowX P ops w0 E rels rest (a.put o.dst c)):FlowX P ops w0 E rels (o::rest) a:=
 .inr (.inl ⟨hf,c,hw,fun x=>by
  unfold Oper.wp
  rw[b0P hop hfn hn hb,hargs]
  refine Calls.mono (hc x) fun e W' he=> ?_
  obtain⟨rfl,hE⟩:=he
  exact⟨rfl,hE⟩,hr⟩)
theorem FlowX.val {E:Act→List (Tmp×d0g)→Prop}{rels:List (Tmp×d0g)}{rest:List Oper}{o:Oper}{a:Act}(c:Value)(hf:m0V ops rels o=true)(hw:Region.wanted o (yielded ops a.tmps)=true)
  (hrun: ∀x:SW w0,(execOp a.eval o).run P x.w= .ok (.value c) x.w) (hr:FlowX P ops w0 E rels rest (a.put o.dst c)):FlowX P ops w0 E rels (o::rest) a:=
 .inr (.inl ⟨hf,c,hw,fun x=>by
  unfold Oper.wp
  rw[hrun]
  exact⟨rfl,Mods.refl _ _⟩,hr⟩)
theorem FlowX.fin {E:Act→List (Tmp×d0g)→Prop}{rels:List (Tmp×d0g)}{a:Act}(h:E a rels):FlowX P ops w0 E rels [] a:=h
structure FRel (a0:Act) (done rels:List (Tmp×d0g)) (a:Act):Prop where
 tmps:a.tmps.size=a0.tmps.size
 defers:a.defers=a0.defers
 same: ∀(A:Act) (W:World) (ts:List Tmp),r0P done ts A W→r0O done ts a0 A→ ∀t∈ts,(∀p∈rels,p.1≠t)→A.eval (.tmp t)=a.eval (.tmp t)
 rel: ∀(A:Act) (W:World) (ts:List Tmp),r0P done ts A W→r0O done ts a0 A→ ∀p∈rels,p.1∈ts→p.2 (A.eval (.tmp p.1)) W
 sub: ∀p∈rels,p.1∈done.map (·.1)
theorem c0j {done:List (Tmp×d0g)}{ts:List Tmp}{A:Act}{W:World}{d:Tmp}{φ:d0g}(h:r0P ((d,φ)::done) ts A W):r0P done (ts.filter (· !=d)) A W∧(d∈ts→φ (A.eval (.tmp d)) W):=
 ⟨fun p hp ht=>h p (List.mem_cons_of_mem _ hp) (List.mem_filter.1 ht).1,fun hd=>h (d,φ) (List.mem_cons_self ..) hd⟩
theorem d0c {done:List (Tmp×d0g)}{ts:List Tmp}{a0 A:Act}{d:Tmp}{φ:d0g}(h:r0O ((d,φ)::done) ts a0 A):r0O done (ts.filter (· !=d)) a0 A:=⟨h.1,fun t ht hn=>by
 have:=List.mem_filter.1 ht
 refine h.2 t this.1 ?_
 simp only[List.map_cons,List.mem_cons,not_or]
 exact⟨by simpa using this.2,hn⟩⟩
theorem FRel.exact {a0 a:Act}{done rels:List (Tmp×d0g)}(h:FRel a0 done rels a){d:Tmp}(c:Value)(hd:d<a0.tmps.size)(hf: ∀p∈rels,p.1≠d):
  FRel a0 ((d,fun v _=>v=c)::done) rels (a.put (some d) c):=by
 refine⟨by simp[Act.put,h.tmps],by simp[Act.put,h.defers],?_,?_,fun p hp=>List.mem_cons_of_mem _ (h.sub p hp)⟩
 ·intro A W ts h1 h2 t ht hn
  obtain⟨h3,h4⟩:=c0j h1
  by_cases e:d=t
  ·subst e
   rw[a0t (by rw[h.tmps];exact hd)];exact h4 ht
  ·rw[a0d e]
   exact h.same A W _ h3 (d0c h2) t (List.mem_filter.2 ⟨ht,by simpa using Ne.symm e⟩) hn
 ·intro A W ts h1 h2 p hp ht
  exact h.rel A W _ (c0j h1).1 (d0c h2) p hp (List.mem_filter.2 ⟨ht,by simpa using hf p hp⟩)
theorem FRel.relate {a0 a:Act}{done rels:List (Tmp×d0g)}(h:FRel a0 done rels a){d:Tmp}(φ:d0g)(hf: ∀p∈rels,p.1≠d):
  FRel a0 ((d,φ)::done) ((d,φ)::rels) a:=by
 refine⟨h.tmps,h.defers,?_,?_,?_⟩
 ·intro A W ts h1 h2 t ht hn
  have e:d≠t:=hn (d,φ) (List.mem_cons_self ..)
  exact h.same A W _ (c0j h1).1 (d0c h2) t (List.mem_filter.2 ⟨ht,by simpa using Ne.symm e⟩) fun p hp=>hn p (List.mem_cons_of_mem _ hp)
 ·intro A W ts h1 h2 p hp ht
  rcases List.mem_cons.1 hp with rfl|hp
  ·exact(c0j h1).2 ht
  ·exact h.rel A W _ (c0j h1).1 (d0c h2) p hp (List.mem_filter.2 ⟨ht,by simpa using hf p hp⟩)
 ·intro p hp
  rcases List.mem_cons.1 hp with rfl|hp
  ·simp
  ·exact List.mem_cons_of_mem _ (h.sub p hp)
theorem c0i {E:Act→List (Tmp×d0g)→Prop}{K:List (Tmp×d0g)→Prop}{a0:Act}(hE: ∀done rels a,FRel a0 done rels a→(∀p∈done,p.1<a0.tmps.size)→E a rels→K done):
  ∀(l:List Oper) (done rels:List (Tmp×d0g)) (a:Act),(l.all fun o=>match o.dst with|some d=>decide (d<a0.tmps.size)|none=>false)=true→(∀p∈done,p.1<a0.tmps.size)→
   FRel a0 done rels a→FlowX P ops w0 E rels l a→j0S P ops w0 a0 K done l
 | [],done,rels,a,_,hs,hR,h=>hE done rels a hR hs h
 | o :: rest,done,rels,a,hl,hs,hR,h=>by
  simp only[List.all_cons,Bool.and_eq_true]at hl
  obtain⟨d,hd,hda⟩: ∃d,o.dst=some d∧d<a0.tmps.size:=by
   have:=hl.1
   split at this
   ·rename_i d hd;exact⟨d,hd,by simpa using this⟩
   ·cases this
  have hs': ∀(φ:d0g),∀p∈(d,φ)::done,p.1<a0.tmps.size:=fun φ p hp=>by
   rcases List.mem_cons.1 hp with rfl|hp
   ·exact hda
   ·exact hs p hp
  unfold FlowX at h
  rcases(or_assoc.2 h)with h|⟨d',φ,hd',hfar,hst,hstep,h⟩
  ·have hfar:m0V ops rels o=true:=h.elim (·.1) (·.1)
   have hf1: ∀p∈rels,p.1∉o.looksAt ops∧p.1≠d:=fun p hp=>by
    have:=List.all_eq_true.1 (Bool.and_eq_true_iff.1 hfar).2 p hp
    simp only[Bool.and_eq_true,Bool.not_eq_true',List.contains_eq_mem,decide_eq_false_iff_not,bne_iff_ne,ne_eq,hd,Option.some.injEq]at this
    exact⟨this.1,fun e=>this.2 e.symm⟩
   have agree: ∀A W,r0P done (o.looksAt ops) A W→r0O done (o.looksAt ops) a0 A→ ∀t∈o.looksAt ops,A.eval (.tmp t)=a.eval (.tmp t):=fun A W h1 h2 t ht=>
    hR.same A W _ h1 h2 t ht fun p hp e=>(hf1 p hp).1 (e▸ht)
   have hns: ∀cs b,o.op≠ .select cs b:=fun cs b e=>by
    have:=(Bool.and_eq_true_iff.1 hfar).1
    rw[e]at this;cases this
   have hexec: ∀A W,r0P done (o.looksAt ops) A W→r0O done (o.looksAt ops) a0 A→execOp A.eval o=execOp a.eval o:=fun A W h1 h2=>
    execOp_congr o hns fun x hx=>by
     cases x with
     |tmp t=>exact agree A W h1 h2 t (List.mem_append_left _ (List.mem_filterMap.2 ⟨.tmp t,by simpa using hx,rfl⟩))
     |_=>rfl
   have hwant: ∀A W,r0P done (o.looksAt ops) A W→r0O done (o.looksAt ops) a0 A→Region.wanted o (yielded ops A.tmps)=Region.wanted o (yielded ops a.tmps):=fun A W h1 h2=>by
    have hsz:A.tmps.size=a.tmps.size:=by rw[h2.1,hR.tmps]
    unfold Region.wanted
    cases hg:o.guard with
    |none=>rfl
    | some gw=>
     obtain⟨g,want⟩:=gw
     have hy:yielded ops A.tmps g=yielded ops a.tmps g:=by
      unfold yielded
      cases ht:(ops[g]?).bind (·.dst)with
      |none=>rfl
      | some t=>
       have he:=agree A W h1 h2 t (List.mem_append_right _ (by simp[hg,ht]))
       by_cases hts:t<A.tmps.size
       ·have hts':t<a.tmps.size:=by rw[←hsz];exact hts
        simp[Act.eval,Array.getD,hts,hts']at he
        simp[hts,hts',he]
       ·have hts': ¬t<a.tmps.size:=by rw[←hsz];exact hts
        simp[hts,hts']
     simp only[hy]
   rcases h with⟨_,hpl,h⟩|⟨_,c,hw,hq,hnext⟩
   ·split at h
    ·rename_i hw
     obtain⟨v,hq,hnext⟩:=h
     rw[hd]at hnext
     refine⟨d,_,hd,g0a v,fun A W h1 h2 h3=> ?_,c0i hE rest _ _ _ hl.2 (hs' _) (hR.exact v hda fun p hp=>(hf1 p hp).2) hnext⟩
     unfold c0N
     rw[hwant A W h2 h3,if_pos hw]
     have hq1:=hq W ⟨⟨W,h1⟩,rfl⟩
     have hne:=fun f args W'=>g0k (P:=P) hpl a.eval (W:=W) (W':=W') (f:=f) (args:=args)
     unfold Oper.quietAt at hq1
     unfold Oper.wp
     rw[hexec A W h2 h3]
     generalize(execOp a.eval o).run P W=r at*
     cases r with
     | ok nx w'=>
      cases nx<;>simp only[Oper.quietUpon]at hq1<;>simp only[Oper.upon]
      case value u=>
       obtain⟨e1,e2⟩:=hq1
       exact⟨v,by rw[e2],by rw[e1];exact Mods.refl _ _,rfl⟩
      case skip=>
       obtain⟨e1,e2⟩:=hq1
       exact⟨v,by rw[e2],by rw[e1];exact Mods.refl _ _,rfl⟩
      case enter f args=>exact absurd rfl (hne f args w')
     |halt x w'=>simp only[Oper.quietUpon]at hq1
    ·rename_i hw
     rw[hd]at h
     refine⟨d,_,hd,g0a undef,fun A W h1 h2 h3=> ?_,c0i hE rest _ _ _ hl.2 (hs' _) (hR.exact undef hda fun p hp=>(hf1 p hp).2) h⟩
     unfold c0N
     rw[hwant A W h2 h3,if_neg hw]
     exact⟨Mods.refl _ _,rfl⟩
   ·rw[hd]at hnext
    refine⟨d,_,hd,g0a c,fun A W h1 h2 h3=> ?_,c0i hE rest _ _ _ hl.2 (hs' _) (hR.exact c hda fun p hp=>(hf1 p hp).2) hnext⟩
    unfold c0N
    rw[hwant A W h2 h3,if_pos hw]
    have hq1:=hq ⟨W,h1⟩
    have hdsz:d<a.tmps.size:=by rw[hR.tmps];exact hda
    unfold Oper.wp at hq1⊢
    rw[hexec A W h2 h3]
    have hput: ∀v,a.put o.dst v=a.put o.dst c→v=c:=fun v e=>by
     have:=congrArg (fun b=>b.eval (.tmp d)) e
     simpa[hd,a0t hdsz]using this
    dsimp only at hq1
    generalize(execOp a.eval o).run P W=r at*
    cases r with
    | ok nx w'=>
     cases nx<;>simp only[Oper.upon]at hq1⊢
     case value u=>exact⟨c,by rw[hput u hq1.1],hq1.2,rfl⟩
     case skip=>exact⟨c,by rw[hput _ hq1.1],hq1.2,rfl⟩
     case defer dd=>
      exfalso
      have:=congrArg (fun b=>b.defers.length) hq1.1
      simp[hd,Act.put]at this
     case enter f args=>
      refine Calls.mono hq1 fun e W' he=> ?_
      cases e with
      |returned u=>exact⟨c,by rw[hput u he.1],he.2,rfl⟩
      |panicked ch=>exact(he:False).elim
      |outgrown=>obtain⟨_,_,hh⟩:=he;exact(hh:False).elim
     case row row args=>exact Rows.mono hq1 fun u W' he=>⟨c,by rw[hput u he.1],he.2,rfl⟩
    |halt x w'=>cases x<;>simp only[Oper.upon]at hq1⊢ <;>exact(hq1:False).elim
  ·obtain rfl:d=d':=by rw[hd]at hd';exact Option.some.inj hd'
   have hf1: ∀p∈rels,p.1≠d:=fun p hp=>by
    have:=List.all_eq_true.1 hfar p hp
    simp at this
    exact fun e=>this e.symm
   exact⟨d,φ,hd,hst,fun A W h1 h2 h3=>hstep A W h1 (hR.same A W _ h2 h3) (hR.rel A W _ h2 h3),
    c0i hE rest _ _ a hl.2 (hs' φ) (hR.relate φ hf1) h⟩
theorem e0d {id:Nat}{l:List Oper}{Q:Exit→Act→World→Prop}{a:Act}{w0:World}(n:Nat)(hm:P.follows .mixedOrders=true)(hok:g0u l.toArray n=true)
  (hs:((l.take n).all fun o=>match o.dst with|some d=>decide (d<a.tmps.size)|none=>false)=true)
  (h:FlowX P l.toArray w0.drew (fun a' rels=> ∀(x:SW w0.drew) (f:Tmp→Value),(∀p∈rels,p.2 (f p.1) x.w)→wpList P l.toArray Q (l.drop n) (b0z a' f (rels.map (·.1))) x.w) [] (l.take n) a):
  (Code.region id l.toArray true).wp P Q a w0:=by
 refine g0V n hm hok ?_ (c0i ?_ (l.take n) [] [] a hs (fun _ hp=>(by cases hp)) ⟨rfl,rfl,fun A W ts _ h2 t ht _=>h2.2 t ht (by simp),fun _ _ _ _ _ p hp=>(by cases hp),fun p hp=>(by cases hp)⟩ h)
 ·rw[List.all_eq_true]at hs⊢
  intro o ho
  have:=hs o ho
  split at this
  ·rename_i d hd;rw[hd];simpa using this
  ·cases this
 ·intro done rels a' hR hsz hE f W hW hdone
  have hev: ∀t,t∈done.map (·.1)→(b0z a f (done.map (·.1))).eval (.tmp t)=f t:=fun t ht=>by
   rw[c0W,if_pos]
   obtain⟨p,hp,rfl⟩:=List.mem_map.1 ht
   exact⟨ht,hsz p hp⟩
  have hH: ∀ts,r0P done ts (b0z a f (done.map (·.1))) W:=fun ts p hp _=>by
   rw[hev p.1 (List.mem_map.2 ⟨p,hp,rfl⟩)];exact hdone p hp
  have hO: ∀ts,r0O done ts a (b0z a f (done.map (·.1))):=fun ts=>⟨b0M ..,fun t _ hn=>by
   rw[c0W,if_neg fun hh=>hn hh.1]⟩
  have hA:b0z a f (done.map (·.1))=b0z a' f (rels.map (·.1)):=by
   refine i0C (by rw[b0M,b0M,hR.tmps]) (by rw[c0X,c0X,hR.defers]) fun t=> ?_
   rw[c0W a' f]
   by_cases ht:t∈rels.map (·.1)
   ·obtain⟨p,hp,rfl⟩:=List.mem_map.1 ht
    have hd:=hR.sub p hp
    have hlt:p.1<a'.tmps.size:=by
     obtain⟨q,hq,e⟩:=List.mem_map.1 hd
     rw[hR.tmps,←e];exact hsz q hq
    rw[hev _ hd,if_pos ⟨ht,hlt⟩]
   ·rw[if_neg fun hh=>ht hh.1]
    exact hR.same _ W [t] (hH _) (hO _) t (by simp) fun p hp e=>ht (List.mem_map.2 ⟨p,hp,e⟩)
  rw[hA]
  refine hE ⟨W,hW⟩ f fun p hp=> ?_
  have:=hR.rel _ W [p.1] (hH _) (hO _) p hp (by simp)
  rwa [hev p.1 (hR.sub p hp)]at this
end
end Go.Proofs.YtojomcdjcpmnkaaGreat.L
namespace Go.Proofs.YtojomcdjcpmnkaaGreat.A
open Go.RowKit L
inductive AV where
 |val (v:Value)
 |ro (full:Bool) (len:Nat) (xs:List AV)
 |agg (xs:List AV)
 |tup (xs:List AV)
 |rp (xs:List AV) (o:Nat)
 |fn (f:Fn) (cap:List AV)
 |opt (c:Bool) (x:AV)
inductive RelV (R:Nat→Prop) (W:World):AV→Value→Prop
 |val (v:Value):RelV R W (.val v) v
 |emp (full:Bool) (a:Option Addr) (cap:Nat):(full=true→cap=0)→cap≤maxLen→RelV R W (.ro full 0 []) (.slice a 0 cap)
 | ro (full:Bool) (len:Nat) (xs:List AV) (b off cap:Nat) (us:Nat→Value):R b→(∀j,j<xs.length→W.cell? ⟨b,off+j,none⟩=some (us j))→
   (∀j (h:j<xs.length),RelV R W xs[j] (us j))→len≤cap→cap≤maxLen→(full=true→cap=len)→RelV R W (.ro full len xs) (.slice (some ⟨b,off,none⟩) len cap)
 |agg (xs:List AV) (cs:Array Value):cs.size=xs.length→(∀j (h:j<xs.length),RelV R W xs[j] (cs.getD j undef))→RelV R W (.agg xs) (.agg cs)
 |tup (xs:List AV) (cs:Array Value):cs.size=xs.length→(∀j (h:j<xs.length),RelV R W xs[j] (cs.getD j undef))→RelV R W (.tup xs) (.tuple cs)
 | rp (xs:List AV) (o b off:Nat) (us:Nat→Value):R b→(∀j,j<xs.length→W.cell? ⟨b,off+j,none⟩=some (us j))→
   (∀j (h:j<xs.length),RelV R W xs[j] (us j))→RelV R W (.rp xs o) (.pointer (some ⟨b,off+o,none⟩))
 |fn (f:Fn) (xs:List AV) (cs:Array Value):cs.size=xs.length→(∀j (h:j<xs.length),RelV R W xs[j] (cs.getD j undef))→RelV R W (.fn f xs) (.func f #[] cs)
 |opt (c:Bool) (x:AV) (v:Value):(c=true→RelV R W x v)→(c=false→v=undef)→RelV R W (.opt c x) v
theorem RelV.mono {R R':Nat→Prop}{W W':World}(hR: ∀b,R b→R' b)(hW: ∀b,R b→W'.heap[b]? =W.heap[b]?){x:AV}{v:Value}(h:RelV R W x v):RelV R' W' x v:=by
 induction h with
 |val v=>exact .val v
 |emp full a cap h1 h2=>exact .emp full a cap h1 h2
 |ro full len xs b off cap us hb hc _ h1 h2 h3 ih=>exact .ro full len xs b off cap us (hR b hb) (fun j hj=>by rw[World.cell?_of_block (w:=W) (hW b hb)];exact hc j hj) ih h1 h2 h3
 |agg xs cs hs _ ih=>exact .agg xs cs hs ih
 |tup xs cs hs _ ih=>exact .tup xs cs hs ih
 |rp xs o b off us hb hc _ ih=>exact .rp xs o b off us (hR b hb) (fun j hj=>by rw[World.cell?_of_block (w:=W) (hW b hb)];exact hc j hj) ih
 |fn f xs cs hs _ ih=>exact .fn f xs cs hs ih
 |opt c x v _ h2 ih=>exact .opt c x v ih h2
def RelL (R:Nat→Prop)(W:World)(xs:List AV)(us:List Value):Prop:=us.length=xs.length∧ ∀j (h:j<xs.length),RelV R W xs[j] (us.getD j undef)
theorem RelL.mono {R R':Nat→Prop}{W W':World}(hR: ∀b,R b→R' b)(hW: ∀b,R b→W'.heap[b]? =W.heap[b]?){xs:List AV}{us:List Value}(h:RelL R W xs us):RelL R' W' xs us:=
 ⟨h.1,fun j hj=>(h.2 j hj).mono hR hW⟩
theorem RelL.nil {R:Nat→Prop}{W:World}:RelL R W [] []:=⟨rfl,fun j hj=>by cases hj⟩
theorem RelL.cons {R:Nat→Prop}{W:World}{x:AV}{xs:List AV}{u:Value}{us:List Value}(h:RelV R W x u)(hs:RelL R W xs us):RelL R W (x::xs) (u::us):=
 ⟨by simp[hs.1],fun j hj=>by
  cases j with
  |zero=>simpa using h
  |succ j=>simpa using hs.2 j (by simpa using hj)⟩
theorem RelL.uncons {R:Nat→Prop}{W:World}{x:AV}{xs:List AV}{us:List Value}(h:RelL R W (x::xs) us): ∃u r,us=u::r∧RelV R W x u∧RelL R W xs r:=by
 cases us with
 |nil=>have:=h.1;simp at this
 |cons u r=>exact⟨u,r,rfl,h.2 0 (by simp),by have:=h.1;simpa using this,fun j hj=>h.2 (j+1) (by simp;omega)⟩
theorem RelL.app {R:Nat→Prop}{W:World}{xs ys:List AV}{us vs:List Value}(h:RelL R W xs us)(k:RelL R W ys vs):RelL R W (xs++ys) (us++vs):=by
  induction xs generalizing us with
  | nil => have:us= []:=List.eq_nil_of_length_eq_zero (by simpa using h.1)
           subst this;exact k
  | cons x xs ih=>
    obtain⟨u,r,rfl,h1,h2⟩:=h.uncons
    exact RelL.cons h1 (ih h2)
theorem RelL.get {R:Nat→Prop}{W:World}{xs:List AV}{us:List Value}(h:RelL R W xs us){j:Nat}{x:AV}(hx:xs[j]? =some x): ∃u,us[j]? =some u∧RelV R W x u:=by
 obtain⟨hj,rfl⟩:=List.getElem?_eq_some_iff.1 hx
 have hj':j<us.length:=by rw[h.1];exact hj
 exact⟨us[j],by simp[hj'],by simpa[hj']using h.2 j hj⟩
theorem RelL.take {R:Nat→Prop}{W:World}{xs:List AV}{us:List Value}(h:RelL R W xs us)(n:Nat):RelL R W (xs.take n) (us.take n):=
 ⟨by simp[h.1],fun j hj=>by
  rw[List.length_take]at hj
  have:=h.2 j (by omega)
  have e:(us.take n).getD j undef=us.getD j undef:=by simp[List.getD,List.getElem?_take,show j<n by omega]
  rw[e,List.getElem_take];exact this⟩
theorem RelL.drop {R:Nat→Prop}{W:World}{xs:List AV}{us:List Value}(h:RelL R W xs us)(n:Nat):RelL R W (xs.drop n) (us.drop n):=
 ⟨by simp[h.1],fun j hj=>by
  simp at hj
  have:=h.2 (n+j) (by omega)
  have hj':n+j<us.length:=by rw[h.1];omega
  simpa[hj']using this⟩
theorem RelL.set {R:Nat→Prop}{W:World}{xs:List AV}{us:List Value}(h:RelL R W xs us)(i:Nat){x:AV}{u:Value}(hx:RelV R W x u):RelL R W (xs.set i x) (us.set i u):=
 ⟨by simp[h.1],fun j hj=>by
  simp at hj
  have hj':j<us.length:=by rw[h.1];exact hj
  by_cases e:i=j
  ·subst e;simpa[hj']using hx
  ·simpa[e,hj']using h.2 j hj⟩
theorem c0V {R:Nat→Prop}{W:World}{xs:List AV}{cs:Array Value}(hs:cs.size=xs.length)(h: ∀j (h:j<xs.length),RelV R W xs[j] (cs.getD j undef)):RelL R W xs cs.toList:=
 ⟨by simpa using hs,fun j hj=>by
  have hj':j<cs.size:=by omega
  simpa[Array.getD,hj']using h j hj⟩
theorem RelL.toAgg {R:Nat→Prop}{W:World}{xs:List AV}{us:List Value}(h:RelL R W xs us):RelV R W (.agg xs) (.agg us.toArray):=
 .agg xs _ (by simpa using h.1) fun j hj=>by
  have hj':j<us.length:=by rw[h.1];exact hj
  simpa[Array.getD,hj']using h.2 j hj
theorem RelL.toTup {R:Nat→Prop}{W:World}{xs:List AV}{us:List Value}(h:RelL R W xs us):RelV R W (.tup xs) (.tuple us.toArray):=
 .tup xs _ (by simpa using h.1) fun j hj=>by
  have hj':j<us.length:=by rw[h.1];exact hj
  simpa[Array.getD,hj']using h.2 j hj
theorem RelL.toFn {R:Nat→Prop}{W:World}{f:Fn}{xs:List AV}{us:List Value}(h:RelL R W xs us):RelV R W (.fn f xs) (.func f #[] us.toArray):=
 .fn f xs _ (by simpa using h.1) fun j hj=>by
  have hj':j<us.length:=by rw[h.1];exact hj
  simpa[Array.getD,hj']using h.2 j hj
theorem RelV.agg_inv {R:Nat→Prop}{W:World}{xs:List AV}{v:Value}(h:RelV R W (.agg xs) v): ∃us:List Value,v= .agg us.toArray∧RelL R W xs us:=by
 cases h with
 |agg _ cs hs h=>exact⟨cs.toList,by simp,c0V hs h⟩
theorem RelV.tup_inv {R:Nat→Prop}{W:World}{xs:List AV}{v:Value}(h:RelV R W (.tup xs) v): ∃us:List Value,v= .tuple us.toArray∧RelL R W xs us:=by
 cases h with
 |tup _ cs hs h=>exact⟨cs.toList,by simp,c0V hs h⟩
theorem RelV.fn_inv {R:Nat→Prop}{W:World}{f:Fn}{xs:List AV}{v:Value}(h:RelV R W (.fn f xs) v): ∃us:List Value,v= .func f #[] us.toArray∧RelL R W xs us:=by
 cases h with
 |fn _ _ cs hs h=>exact⟨cs.toList,by simp,c0V hs h⟩
theorem RelV.opt_inv {R:Nat→Prop}{W:World}{c:Bool}{x:AV}{v:Value}(h:RelV R W (.opt c x) v):(c=true→RelV R W x v)∧(c=false→v=undef):=by
 cases h with
 |opt _ _ _ h1 h2=>exact⟨h1,h2⟩
theorem RelV.val_inv {R:Nat→Prop}{W:World}{v u:Value}(h:RelV R W (.val v) u):u=v:=by cases h;rfl
def AV.one:AV→Bool
 | .val v=>v.oneCell'
 | .agg _| .tup _| .opt _ _=>false
 |_=>true
theorem RelV.one {R:Nat→Prop}{W:World}{x:AV}{v:Value}(h:RelV R W x v)(h1:x.one=true):v.oneCell'=true:=by
 cases h<;>first|exact h1|rfl|cases h1
def AV.cells:AV→List AV
 | .agg xs=>xs
 |x=> [x]
theorem RelV.cells {R:Nat→Prop}{W:World}{x:AV}{v:Value}(h:RelV R W x v)(h0: ∀u,x= .val u→u.oneCell'=true)(h9: ∀c y,x≠ .opt c y):RelL R W x.cells v.cells.toList:=by
 cases h with
 |val v=>
  have:=h0 v rfl
  have hc:v.cells= #[v]:=by cases v<;>first|rfl|cases this
  rw[hc];exact RelL.cons (.val v) RelL.nil
 |agg xs cs hs h=>exact c0V hs h
 |emp full a cap h1 h2=>exact RelL.cons (.emp full a cap h1 h2) RelL.nil
 |ro full len xs b off cap us hb hc hr h1 h2 h3=>exact RelL.cons (.ro full len xs b off cap us hb hc hr h1 h2 h3) RelL.nil
 |tup xs cs hs h=>exact RelL.cons (.tup xs cs hs h) RelL.nil
 |rp xs o b off us hb hc hr=>exact RelL.cons (.rp xs o b off us hb hc hr) RelL.nil
 |fn f xs cs hs h=>exact RelL.cons (.fn f xs cs hs h) RelL.nil
 |opt c y _ _ _=>exact absurd rfl (h9 c y)
abbrev Env:=List (Nat×AV)
def a0r:Env→Nat→Option AV
 | [],_=>none
 |(k,v)::r,t=>bif Nat.beq k t then some v else a0r r t
def a0A:Value→AV
 | .agg cs=> .agg (cs.toList.map .val)
 |v=> .val v
theorem k0w (R:Nat→Prop)(W:World)(v:Value):RelV R W (a0A v) v:=by
 cases v with
 |agg cs=>
  refine .agg _ cs (by simp) fun j hj=> ?_
  have hj':j<cs.size:=by simpa using hj
  simp only[List.getElem_map,Array.getElem_toList,Array.getD,hj',dif_pos]
  exact .val _
 |_=>exact .val _
def ev (E:Env):Operand→Option AV
 | .tmp t=>a0r E t
 | .const v=>some (a0A v)
 | .global g=>some (.val (.pointer (some ⟨g,0,none⟩)))
 | .func f=>some (.fn (.func f) [])
def evs (E:Env):List Operand→Option (List AV)
 | []=>some []
 |x::r=>match ev E x,evs E r with|some v,some vs=>some (v::vs)|_,_=>none
structure RelA (N:Nat) (R:Nat→Prop) (W:World) (E:Env) (a:Act):Prop where
 defers:a.defers= []
 size:a.tmps.size=N
 slots: ∀t v,a0r E t=some v→RelV R W v (a.eval (.tmp t))
theorem RelA.mono {N:Nat}{R R':Nat→Prop}{W W':World}{E:Env}{a:Act}(h:RelA N R W E a)(hR: ∀b,R b→R' b)(hW: ∀b,R b→W'.heap[b]? =W.heap[b]?):RelA N R' W' E a:=
 ⟨h.defers,h.size,fun t v ht=>(h.slots t v ht).mono hR hW⟩
theorem RelA.ev {N:Nat}{R:Nat→Prop}{W:World}{E:Env}{a:Act}(h:RelA N R W E a){x:Operand}{v:AV}(hx:ev E x=some v):RelV R W v (a.eval x):=by
 cases x with
 |tmp t=>exact h.slots t v hx
 |const u=>cases hx;exact k0w ..
 |global g=>cases hx;exact .val _
 |func f=>cases hx;exact .fn _ [] #[] rfl (fun j hj=>by cases hj)
theorem RelA.evs {N:Nat}{R:Nat→Prop}{W:World}{E:Env}{a:Act}(h:RelA N R W E a): ∀{xs:List Operand} {vs:List AV},A.evs E xs=some vs→RelL R W vs (xs.map a.eval)
 | [],vs,hx=>by cases hx;exact RelL.nil
 | x::r,vs,hx=>by
  unfold A.evs at hx
  split at hx
  ·rename_i v vs' h1 h2
   cases hx
   exact RelL.cons (h.ev h1) (RelA.evs h h2)
  ·cases hx
theorem RelA.put {N:Nat}{R:Nat→Prop}{W:World}{E:Env}{a:Act}(h:RelA N R W E a){d:Nat}(hd:d<N){v:AV}{u:Value}(hv:RelV R W v u):RelA N R W ((d,v)::E) (a.put (some d) u):=by
 refine⟨h.defers,by simp[Act.put,h.size],fun t x hx=> ?_⟩
 unfold a0r at hx
 by_cases e:d=t
 ·subst e
  simp at hx
  subst hx
  rw[a0t (by rw[h.size];exact hd)];exact hv
 ·have:Nat.beq d t=false:=by cases hb:Nat.beq d t with|false=>rfl|true=>exact absurd (Nat.eq_of_beq_eq_true hb) e
  rw[this]at hx
  rw[a0d e];exact h.slots t x hx
theorem RelA.none {N:Nat}{R:Nat→Prop}{W:World}{E:Env}{a:Act}(h:RelA N R W E a)(u:Value):RelA N R W E (a.put none u):=h
inductive HE where
 |blk (b:Nat) (T:TypeId) (room:Nat) (xs:List AV)
 |row (v:Value) (T:TypeId) (sz n:Nat) (xs:List AV)
 |prd (foot:Nat→Prop) (p:World→Prop)
def HE.foot:HE→Nat→Prop
 | .blk b ..,k=>k=b
 | .row v ..,k=>v.ownBlock=some k
 | .prd f _,k=>f k
def HE.ok (R:Nat→Prop)(W:World):HE→Prop
 | .blk b T room xs=> ∃us:List Value,∃cs:Array Value,W.heap[b]? =some (.cells cs T (0,0))∧cs.size=room∧cs.toList.take xs.length=us∧RelL R W xs us
 | .row v T sz n xs=> ∃us:List Value,W.ownsRow 0 T sz v n us∧RelL R W xs us
 | .prd f p=>p W∧(∀W':World,W.heap.size≤W'.heap.size→(∀b,f b→W'.heap[b]? =W.heap[b]?)→p W')∧ ∀b,f b→b<W.heap.size
theorem HE.ok_lt {R:Nat→Prop}{W:World}{e:HE}(h:e.ok R W){b:Nat}(hb:e.foot b):b<W.heap.size:=by
 cases e with
 |blk b' T room xs=>
  obtain⟨us,cs,h1,_⟩:=h
  cases hb
  exact(Array.getElem?_eq_some_iff.1 h1).1
 |row v T sz n xs=>
  obtain⟨us,h1,_⟩:=h
  exact(h1.lt b hb).2
 |prd f p=>exact h.2.2 b hb
theorem HE.ok_mono {R R':Nat→Prop}{W W':World}(hR: ∀b,R b→R' b)(hW: ∀b,R b→W'.heap[b]? =W.heap[b]?){e:HE}(hs:W.heap.size≤W'.heap.size)(hf: ∀b,e.foot b→W'.heap[b]? =W.heap[b]?)(h:e.ok R W):e.ok R' W':=by
 cases e with
 |blk b T room xs=>
  obtain⟨us,cs,h1,h2,h3,h4⟩:=h
  exact⟨us,cs,by rw[hf b rfl];exact h1,h2,h3,h4.mono hR hW⟩
 |row v T sz n xs=>
  obtain⟨us,h1,h2⟩:=h
  refine⟨us,⟨h1.1,?_⟩,h2.mono hR hW⟩
  rcases h1.2 with h|⟨g,cap,cur,rfl,hb,hg,rest⟩
  ·exact .inl h
  ·exact .inr ⟨g,cap,cur,rfl,hb,by rw[hf g rfl];exact hg,rest⟩
 |prd f p=>
  obtain⟨h1,h2,h3⟩:=h
  refine⟨h2 W' hs hf,fun W2 hs2 h4=>h2 W2 (by omega) fun b hb=>(h4 b hb).trans (hf b hb),fun b hb=>Nat.lt_of_lt_of_le (h3 b hb) hs⟩
def Disj (e f:HE):Prop:= ∀b,e.foot b→ ¬f.foot b
structure Cx where
 w0:World
 S:Nat→Prop
 R0:Nat→Prop
 N:Nat
structure RelS (Γ:Cx) (R:Nat→Prop) (H:List HE) (W:World):Prop where
 mods:Mods Γ.S Γ.w0 W
 rlt: ∀b,R b→b<W.heap.size
 rsub: ∀b,Γ.R0 b→R b
 rnew: ∀b,R b→Γ.R0 b∨Γ.w0.heap.size≤b∨Γ.S b
 ok: ∀e∈H,e.ok R W
 own: ∀e∈H,∀b,e.foot b→(Γ.w0.heap.size≤b∨Γ.S b)∧ ¬R b
 disj:H.Pairwise Disj
structure Post1 (R:Nat→Prop) (W:World) (v:AV) (Hn:List HE) (u:Value) (W':World) (R':Nat→Prop):Prop where
 ext:Ext W W'
 sub: ∀b,R b→R' b
 new: ∀b,R' b→R b∨(W.heap.size≤b∧b<W'.heap.size)
 val:RelV R' W' v u
 ok: ∀e∈Hn,e.ok R' W'∧ ∀b,e.foot b→W.heap.size≤b∧ ¬R' b
 disj:Hn.Pairwise Disj
theorem c0D {W W':World}(h:Ext W W'){R:Nat→Prop}(hR: ∀b,R b→b<W.heap.size): ∀b,R b→W'.heap[b]? =W.heap[b]? :=fun b hb=>h.block b (hR b hb) (fun hh=>hh)
theorem RelS.step {Γ:Cx}{R R':Nat→Prop}{H Hn:List HE}{W W':World}{v:AV}{u:Value}(h:RelS Γ R H W)(p:Post1 R W v Hn u W' R'):RelS Γ R' (Hn++H) W':=by
 have hfl: ∀e∈H,∀b,e.foot b→b<W.heap.size:=fun e he b hb=>HE.ok_lt (h.ok e he) hb
 refine⟨h.mods.trans p.ext.any,fun b hb=> ?_,fun b hb=>p.sub b (h.rsub b hb),fun b hb=> ?_,?_,?_,?_⟩
 ·rcases p.new b hb with hb|hb
  ·exact Nat.lt_of_lt_of_le (h.rlt b hb) p.ext.size
  ·exact hb.2
 ·rcases p.new b hb with hb|hb
  ·exact h.rnew b hb
  ·exact .inr (.inl (Nat.le_trans h.mods.size hb.1))
 ·intro e he
  rcases List.mem_append.1 he with he|he
  ·exact(p.ok e he).1
  ·exact HE.ok_mono p.sub (c0D p.ext h.rlt) p.ext.size (fun b hb=>p.ext.block b (hfl e he b hb) fun hh=>hh) (h.ok e he)
 ·intro e he b hb
  rcases List.mem_append.1 he with he|he
  ·have:=(p.ok e he).2 b hb
   exact⟨.inl (Nat.le_trans h.mods.size this.1),this.2⟩
  ·refine⟨(h.own e he b hb).1,fun hr=> ?_⟩
   rcases p.new b hr with hr|hr
   ·exact(h.own e he b hb).2 hr
   ·have:=hfl e he b hb;omega
 ·rw[List.pairwise_append]
  refine⟨p.disj,h.disj,fun e he f hf b hb hb'=> ?_⟩
  have h1:=((p.ok e he).2 b hb).1
  have h2:=hfl f hf b hb'
  omega
theorem RelS.sub {Γ:Cx}{R:Nat→Prop}{H H':List HE}{W:World}(h:RelS Γ R H W)(hs:H'.Sublist H):RelS Γ R H' W:=
 ⟨h.mods,h.rlt,h.rsub,h.rnew,fun e he=>h.ok e (hs.subset he),fun e he=>h.own e (hs.subset he),h.disj.sublist hs⟩
theorem Disj.symm {e f:HE}(h:Disj e f):Disj f e:=fun b hb hb'=>h b hb' hb
theorem RelS.perm {Γ:Cx}{R:Nat→Prop}{H H':List HE}{W:World}(h:RelS Γ R H W)(hs:H'.Perm H):RelS Γ R H' W:=
 ⟨h.mods,h.rlt,h.rsub,h.rnew,fun e he=>h.ok e (hs.subset he),fun e he=>h.own e (hs.subset he),(hs.symm.pairwise_iff Disj.symm).1 h.disj⟩
abbrev G (Γ:Cx)(E:Env)(H:List HE)(X:Act→World→Prop):Prop:= ∀R a W,RelS Γ R H W→RelA Γ.N R W E a→X a W
def AW (Γ:Cx)(P:Program)(Q:Exit→Act→World→Prop)(c:Code)(E:Env)(H:List HE):Prop:=G Γ E H (c.wp P Q)
def AQ (Γ:Cx)(Q:Exit→Act→World→Prop)(x:Exit)(E:Env)(H:List HE):Prop:=G Γ E H (Q x)
def AO (Γ:Cx)(P:Program)(ops:Array Oper)(Q:Exit→Act→World→Prop)(l:List Oper)(E:Env)(H:List HE):Prop:=G Γ E H (wpList P ops Q l)
theorem AW.g {Γ:Cx}{P:Program}{Q:Exit→Act→World→Prop}{c:Code}{E:Env}{H:List HE}(h:G Γ E H (c.wp P Q)):AW Γ P Q c E H:=h
theorem AQ.g {Γ:Cx}{Q:Exit→Act→World→Prop}{x:Exit}{E:Env}{H:List HE}(h:G Γ E H (Q x)):AQ Γ Q x E H:=h
theorem AO.g {Γ:Cx}{P:Program}{ops:Array Oper}{Q:Exit→Act→World→Prop}{l:List Oper}{E:Env}{H:List HE}(h:G Γ E H (wpList P ops Q l)):AO Γ P ops Q l E H:=h
theorem AW.u {Γ:Cx}{P:Program}{Q:Exit→Act→World→Prop}{c:Code}{E:Env}{H:List HE}(h:AW Γ P Q c E H):G Γ E H (c.wp P Q):=h
theorem AQ.u {Γ:Cx}{Q:Exit→Act→World→Prop}{x:Exit}{E:Env}{H:List HE}(h:AQ Γ Q x E H):G Γ E H (Q x):=h
theorem AO.u {Γ:Cx}{P:Program}{ops:Array Oper}{Q:Exit→Act→World→Prop}{l:List Oper}{E:Env}{H:List HE}(h:AO Γ P ops Q l E H):G Γ E H (wpList P ops Q l):=h
section
variable {Γ:Cx}{P:Program}{Q:Exit→Act→World→Prop}{E:Env}{H:List HE}
def s0x (P:Program)(c:Code)(Q:Exit→Act→World→Prop):Exit→Act→World→Prop:=Exit.then (fun a w=>c.wp P Q a w) Q
theorem AW.seq {x y:Code}(h:AW Γ P (s0x P y Q) x E H):AW Γ P Q (.seq x y) E H:=fun R a W hs ha=>wp_seq (h R a W hs ha)
theorem zD {x y:Code}(h:AW Γ P (s0x P y Q) x E H):AW Γ P Q (.seq x y) E H:=AW.seq h
theorem AW.skip (h:AQ Γ Q .normal E H):AW Γ P Q .skip E H:=fun R a W hs ha=>wp_skip (h R a W hs ha)
theorem y6 (h:AQ Γ Q .normal E H):AW Γ P Q .skip E H:=AW.skip h
theorem AW.exit {i:Nat}(h:AQ Γ Q (.exit i) E H):AW Γ P Q (.exit i) E H:=fun R a W hs ha=>wp_exit (h R a W hs ha)
theorem wj {i:Nat}(h:AQ Γ Q (.exit i) E H):AW Γ P Q (.exit i) E H:=AW.exit h
theorem AW.ret (h:AQ Γ Q .ret E H):AW Γ P Q .ret E H:=fun R a W hs ha=>wp_ret (h R a W hs ha)
theorem xj (h:AQ Γ Q .ret E H):AW Γ P Q .ret E H:=AW.ret h
theorem AW.block {i:Nat}{c:Code}(h:AW Γ P (Exit.inBlock i Q) c E H):AW Γ P Q (.block i c) E H:=fun R a W hs ha=>wp_block (h R a W hs ha)
theorem xo {i:Nat}{c:Code}(h:AW Γ P (Exit.inBlock i Q) c E H):AW Γ P Q (.block i c) E H:=AW.block h
theorem AW.condT {c:Operand}{x y:Code}(hc:ev E c=some (.val (.bool true)))(h:AW Γ P Q x E H):AW Γ P Q (.cond c x y) E H:=fun R a W hs ha=>wp_cond_true (ha.ev hc).val_inv (h R a W hs ha)
theorem AW.condF {c:Operand}{x y:Code}(hc:ev E c=some (.val (.bool false)))(h:AW Γ P Q y E H):AW Γ P Q (.cond c x y) E H:=fun R a W hs ha=>wp_cond_false (ha.ev hc).val_inv (h R a W hs ha)
theorem AW.cond {c:Operand}{x y:Code}(b:Bool)(hc:ev E c=some (.val (.bool b)))(h1:b=true→AW Γ P Q x E H)(h2:b=false→AW Γ P Q y E H):AW Γ P Q (.cond c x y) E H:=fun R a W hs ha=>
 wp_cond_split (ha.ev hc).val_inv (fun hb=>h1 hb R a W hs ha) (fun hb=>h2 hb R a W hs ha)
theorem AQ.thenN {c:Code}(h:AW Γ P Q c E H):AQ Γ (s0x P c Q) .normal E H:=h
theorem zn {c:Code}(h:AW Γ P Q c E H):AQ Γ (s0x P c Q) .normal E H:=AQ.thenN h
theorem AQ.thenX {c:Code}{i:Nat}(h:AQ Γ Q (.exit i) E H):AQ Γ (s0x P c Q) (.exit i) E H:=h
theorem x8 {c:Code}{i:Nat}(h:AQ Γ Q (.exit i) E H):AQ Γ (s0x P c Q) (.exit i) E H:=AQ.thenX h
theorem AQ.thenR {c:Code}(h:AQ Γ Q .ret E H):AQ Γ (s0x P c Q) .ret E H:=h
theorem xx {c:Code}(h:AQ Γ Q .ret E H):AQ Γ (s0x P c Q) .ret E H:=AQ.thenR h
theorem AQ.blockN {i:Nat}(h:AQ Γ Q .normal E H):AQ Γ (Exit.inBlock i Q) .normal E H:=h
theorem xE {i:Nat}(h:AQ Γ Q .normal E H):AQ Γ (Exit.inBlock i Q) .normal E H:=AQ.blockN h
theorem AQ.blockR {i:Nat}(h:AQ Γ Q .ret E H):AQ Γ (Exit.inBlock i Q) .ret E H:=h
theorem ww {i:Nat}(h:AQ Γ Q .ret E H):AQ Γ (Exit.inBlock i Q) .ret E H:=AQ.blockR h
theorem AQ.blockX {i j:Nat}(hij:Nat.beq i j=true)(h:AQ Γ Q .normal E H):AQ Γ (Exit.inBlock i Q) (.exit j) E H:=fun R a W hs ha=>by
 have:=Nat.eq_of_beq_eq_true hij
 subst this
 show(if i=i then Q .normal a W else Q (.exit i) a W)
 rw[if_pos rfl];exact h R a W hs ha
theorem xD {i j:Nat}(h:AQ Γ Q .normal E H)(hij:Nat.beq i j=true:=by exact rfl):AQ Γ (Exit.inBlock i Q) (.exit j) E H:=AQ.blockX hij h
def d0A (I:Nat→Env→List HE→Prop)(n:Nat)(Γ:Cx)(Q:Exit→Act→World→Prop):Exit→Act→World→Prop:=
 Exit.then (fun a W=> ∃m E H R,m<n∧I m E H∧RelS Γ R H W∧RelA Γ.N R W E a) Q
theorem AW.loop {c:Code}(I:Nat→Env→List HE→Prop)(n:Nat){E0:Env}{H0:List HE}(hI:I n E0 H0)(hE: ∀p∈E0,a0r E p.1=some p.2)(hH: ∃H1,H1.Sublist H∧H0.Perm H1)
  (round: ∀n E H,I n E H→AW Γ P (d0A I n Γ Q) c E H):AW Γ P Q (.loop c) E H:=fun R a W hs ha=>by
 have hmem: ∀{E:Env} {t:Nat} {v:AV},a0r E t=some v→(t,v)∈E:=by
  intro E
  induction E with
  |nil=>intro t v h;cases h
  |cons p r ih=>
   intro t v h
   unfold a0r at h
   cases hb:Nat.beq p.1 t with
   |true=>rw[hb]at h;simp at h;subst h;have:=Nat.eq_of_beq_eq_true hb;subst this;exact List.mem_cons_self ..
   |false=>rw[hb]at h;exact List.mem_cons_of_mem _ (ih h)
 obtain⟨H1,h1,h2⟩:=hH
 refine wp_loop_ghost (fun n a W=> ∃E H R,I n E H∧RelS Γ R H W∧RelA Γ.N R W E a) n ⟨E0,H0,R,hI,(hs.sub h1).perm h2,⟨ha.defers,ha.size,fun t v ht=>ha.slots t v (hE _ (hmem ht))⟩⟩ ?_
 rintro n a W ⟨E,H,R,hI,hs,ha⟩
 refine wp_mono (round n E H hI R a W hs ha) ?_
 intro e a w h
 cases e with
 |normal=>obtain⟨m,E',H',R',h1,h2,h3,h4⟩:=h;exact⟨m,h1,E',H',R',h2,h3,h4⟩
 |_=>exact h
theorem AQ.loopN {I:Nat→Env→List HE→Prop}{n:Nat}(m:Nat)(E0:Env)(H0:List HE)(hm:m<n)(hI:I m E0 H0)(hE: ∀p∈E0,a0r E p.1=some p.2)(hH: ∃H1,H1.Sublist H∧H0.Perm H1):AQ Γ (d0A I n Γ Q) .normal E H:=fun R a W hs ha=>by
 have hmem: ∀{E:Env} {t:Nat} {v:AV},a0r E t=some v→(t,v)∈E:=by
  intro E
  induction E with
  |nil=>intro t v h;cases h
  |cons p r ih=>
   intro t v h
   unfold a0r at h
   cases hb:Nat.beq p.1 t with
   |true=>rw[hb]at h;simp at h;subst h;have:=Nat.eq_of_beq_eq_true hb;subst this;exact List.mem_cons_self ..
   |false=>rw[hb]at h;exact List.mem_cons_of_mem _ (ih h)
 obtain⟨H1,h1,h2⟩:=hH
 exact⟨m,E0,H0,R,hm,hI,(hs.sub h1).perm h2,⟨ha.defers,ha.size,fun t v ht=>ha.slots t v (hE _ (hmem ht))⟩⟩
theorem AQ.loopX {I:Nat→Env→List HE→Prop}{n i:Nat}(h:AQ Γ Q (.exit i) E H):AQ Γ (d0A I n Γ Q) (.exit i) E H:=h
theorem wd {I:Nat→Env→List HE→Prop}{n i:Nat}(h:AQ Γ Q (.exit i) E H):AQ Γ (d0A I n Γ Q) (.exit i) E H:=AQ.loopX h
theorem AQ.loopR {I:Nat→Env→List HE→Prop}{n:Nat}(h:AQ Γ Q .ret E H):AQ Γ (d0A I n Γ Q) .ret E H:=h
def Is (v:AV):AV→List HE→Prop:=fun v' Hn=>v'=v∧Hn= []
def OpW (P:Program)(N:Nat)(o:Oper)(E:Env)(H:List HE)(Φ:AV→List HE→Prop):Prop:=
 ∀R a W,(∀b,R b→b<W.heap.size)→(∀e∈H,e.ok R W)→(∀e∈H,∀b,e.foot b→ ¬R b)→RelA N R W E a→
  o.wp P a W (fun A' W'=> ∃u v Hn R',A'=a.put o.dst u∧Φ v Hn∧Post1 R W v Hn u W' R') NoQ
def a0f (ops:Array Oper)(E:Env)(o:Oper):Option Bool:=
 match o.guard with
 |none=>some true
 | some (g,want)=>match(ops[g]?).bind (·.dst)with
  |some t=>match a0r E t with
   |some (.val (.bool c))=>some (c==want)
   |_=>none
  |none=>none
abbrev vS (ops:Array Oper)(E:Env)(o:Oper)(d N:Nat):Prop:=a0f ops E o=some true∧o.dst=some d∧Nat.ble (d+1) N=true
theorem f0V {ops:Array Oper}{N:Nat}{R:Nat→Prop}{W:World}{a:Act}{o:Oper}{c:Bool}(ha:RelA N R W E a)(h:a0f ops E o=some c):Region.wanted o (yielded ops a.tmps)=c:=by
 unfold a0f at h
 unfold Region.wanted
 cases hg:o.guard with
 |none=>rw[hg]at h;simpa using h
 | some gw=>
  obtain⟨g,want⟩:=gw
  rw[hg]at h
  simp only at h⊢
  cases ht:(ops[g]?).bind (·.dst)with
  |none=>rw[ht]at h;cases h
  | some t=>
   rw[ht]at h
   simp only at h
   split at h
   ·rename_i b hl
    have hv:=(ha.slots t _ hl).val_inv
    have hy:yielded ops a.tmps g=some b:=by
     unfold yielded
     rw[ht]
     have:a.tmps[t]? =some (.bool b):=by
      simp only[Act.eval,Array.getD]at hv
      split at hv
      ·rename_i h;simp[h];exact hv
      ·cases hv
     simp[this]
    rw[hy]
    cases h
    cases b<;>cases want<;>rfl
   ·cases h
variable {ops:Array Oper}{rest:List Oper}{o:Oper}{N:Nat}
theorem AO.nil (h:AQ Γ Q .normal E H):AO Γ P ops Q [] E H:=h
theorem zJ (h:AQ Γ Q .normal E H):AO Γ P ops Q [] E H:=AO.nil h
def OpF (P:Program)(N:Nat)(ops:Array Oper)(o:Oper)(E:Env)(H:List HE)(Φ:AV→List HE→Prop):Prop:=
 ∀R a W,(∀b,R b→b<W.heap.size)→(∀e∈H,e.ok R W)→(∀e∈H,∀b,e.foot b→ ¬R b)→RelA N R W E a→
  c0N P ops o a W (fun u W'=> ∃v Hn R',Φ v Hn∧Post1 R W v Hn u W' R')
theorem OpF.run {Φ:AV→List HE→Prop}(hw:a0f ops E o=some true)(h:OpW P N o E H Φ):OpF P N ops o E H Φ:=fun R a W h1 h2 h3 h4=>by
 unfold c0N
 rw[if_pos (f0V h4 hw)]
 refine Oper.wp_mono ?_ (h R a W h1 h2 h3 h4)
 rintro A' W' ⟨u,v,Hn,R',rfl,h5,h6⟩
 exact⟨u,rfl,v,Hn,R',h5,h6⟩
theorem Post1.undef {R:Nat→Prop}{W:World}{v:AV}(hv:RelV R W v undef):Post1 R W v [] undef W R:=
 ⟨Mods.refl _ _,fun _ h=>h,fun _ h=> .inl h,hv,fun _ he=>(by cases he),.nil⟩
theorem OpF.no (hw:a0f ops E o=some false):OpF P N ops o E H (Is (.val undef)):=fun R a W h1 h2 h3 h4=>by
 unfold c0N
 rw[if_neg (by rw[f0V h4 hw];simp)]
 exact⟨_,[],R,⟨rfl,rfl⟩,Post1.undef (.val _)⟩
def a0S (ops:Array Oper)(E:Env)(o:Oper):Option Bool:=
 match o.guard with
 |none=>none
 | some (g,want)=>match(ops[g]?).bind (·.dst)with
  |some t=>match a0r E t with
   |some (.val (.bool p))=>some (bif want then p else !p)
   |some (.opt q (.val (.bool p)))=>some (q&&(bif want then p else !p))
   |_=>none
  |none=>none
theorem r0p {R:Nat→Prop}{W:World}{a:Act}{c:Bool}(ha:RelA N R W E a)(h:a0S ops E o=some c):Region.wanted o (yielded ops a.tmps)=c:=by
 unfold a0S at h
 unfold Region.wanted
 cases hg:o.guard with
 |none=>rw[hg]at h;cases h
 | some gw=>
  obtain⟨g,want⟩:=gw
  rw[hg]at h
  simp only at h⊢
  cases ht:(ops[g]?).bind (·.dst)with
  |none=>rw[ht]at h;cases h
  | some t=>
   rw[ht]at h
   simp only at h
   have hy: ∀b,a.eval (.tmp t)= .bool b→yielded ops a.tmps g=some b:=fun b hv=>by
    unfold yielded
    rw[ht]
    have:a.tmps[t]? =some (.bool b):=by
     simp only[Act.eval,Array.getD]at hv
     split at hv
     ·rename_i h;simp[h];exact hv
     ·cases hv
    simp[this]
   have hn:a.eval (.tmp t)=undef→yielded ops a.tmps g=none:=fun hv=>by
    unfold yielded
    rw[ht]
    simp only[Act.eval,Array.getD]at hv
    split at hv
    ·rename_i h
     have:a.tmps[t]? =some undef:=by simp[h];exact hv
     simp[this,undef]
    ·rename_i h
     have:a.tmps[t]? =none:=by simp;omega
     simp[this]
   split at h
   ·rename_i b hl
    rw[hy b (ha.slots t _ hl).val_inv]
    cases h
    cases b<;>cases want<;>rfl
   ·rename_i q b hl
    obtain⟨h1,h2⟩:=(ha.slots t _ hl).opt_inv
    cases q
    ·rw[hn (h2 rfl)]
     cases h
     rfl
    ·rw[hy b (h1 rfl).val_inv]
     cases h
     cases b<;>cases want<;>rfl
   ·cases h
theorem OpF.opt {c:Bool}{v:AV}(hw:a0S ops E o=some c)(h:c=true→OpW P N o E H (Is v)):OpF P N ops o E H (Is (.opt c v)):=fun R a W h1 h2 h3 h4=>by
 unfold c0N
 rw[r0p h4 hw]
 cases c
 ·exact⟨_,[],R,⟨rfl,rfl⟩,Post1.undef (.opt _ _ _ (fun h=>by cases h) (fun _=>rfl))⟩
 ·refine Oper.wp_mono ?_ (h rfl R a W h1 h2 h3 h4)
  rintro A' W' ⟨u,v',Hn,R',rfl,⟨rfl,rfl⟩,h6⟩
  exact⟨u,rfl,_,[],R',⟨rfl,rfl⟩,⟨h6.ext,h6.sub,h6.new,.opt _ _ _ (fun _=>h6.val) (fun h=>by cases h),h6.ok,h6.disj⟩⟩
theorem OpW.force {Φ:AV→List HE→Prop}(t:Nat){c:Bool}{x:AV}(ht:a0r E t=some (.opt c x))(hc:c=true)(h:OpW P N o ((t,x)::E) H Φ):OpW P N o E H Φ:=fun R a W h1 h2 h3 h4=>
 h R a W h1 h2 h3 ⟨h4.defers,h4.size,fun s v hs=>by
  unfold a0r at hs
  cases hb:Nat.beq t s with
  |true=>rw[hb]at hs;cases hs;have:=Nat.eq_of_beq_eq_true hb;subst this;exact(h4.slots t _ ht).opt_inv.1 hc
  |false=>rw[hb]at hs;exact h4.slots s v hs⟩
theorem xI {Φ:AV→List HE→Prop}{c:Bool}{x:AV}(t:Nat)(ht:a0r E t=some (.opt c x))(hc:c=true)(h:OpW P N o ((t,x)::E) H Φ:=by exact(O.load rfl rfl mM (by rfl))):OpW P N o E H Φ:=OpW.force t ht hc h
theorem ve {Φ:AV→List HE→Prop}{c:Bool}{x:AV}(t:Nat)(ht:a0r E t=some (.opt c x))(hc:c=true)(h:OpW P N o ((t,x)::E) H Φ):OpW P N o E H Φ:=OpW.force t ht hc h
theorem vH {Φ:AV→List HE→Prop}{c:Bool}{x:AV}(t:Nat)(ht:a0r E t=some (.opt c x))(hc:c=true)(h:OpW P N o ((t,x)::E) H Φ:=by exact(O.sub rfl rfl rfl (by exact e0J (by omega)))):OpW P N o E H Φ:=OpW.force t ht hc h
theorem AO.opF {d:Nat}{Φ:AV→List HE→Prop}(h:OpF P Γ.N ops o E H Φ)(hd:o.dst=some d)(hN:d<Γ.N)(k: ∀v Hn,Φ v Hn→AO Γ P ops Q rest ((d,v)::E) (Hn++H)):
  AO Γ P ops Q (o::rest) E H:=fun R a W hs ha=>by
 have:=h R a W hs.rlt hs.ok (fun e he b hb=>(hs.own e he b hb).2) ha
 unfold c0N at this
 unfold wpList
 split
 ·rename_i hw
  rw[if_pos hw]at this
  refine .inl (a0Z (Oper.wp_mono ?_ this))
  rintro A' W' ⟨u,rfl,v,Hn,R',hΦ,hp⟩
  rw[hd]
  exact k v Hn hΦ R' _ W' (hs.step hp) ((ha.mono hp.sub (c0D hp.ext hs.rlt)).put hN hp.val)
 ·rename_i hw
  rw[if_neg hw]at this
  obtain⟨v,Hn,R',hΦ,hp⟩:=this
  rw[hd]
  exact k v Hn hΦ R' _ W (hs.step hp) ((ha.mono hp.sub (c0D hp.ext hs.rlt)).put hN hp.val)
theorem AO.opN {d:Nat}{Φ:AV→List HE→Prop}(h:OpW P Γ.N o E H Φ)(hw:a0f ops E o=some true)(hd:o.dst=some d)(hN:Nat.ble (d+1) Γ.N=true)(k: ∀v Hn,Φ v Hn→AO Γ P ops Q rest ((d,v)::E) (Hn++H)):
  AO Γ P ops Q (o::rest) E H:=AO.opF (.run hw h) hd (lB hN) k
theorem AO.op {d:Nat}{v:AV}(h:OpW P Γ.N o E H (Is v))(hw:a0f ops E o=some true)(hd:o.dst=some d)(hN:Nat.ble (d+1) Γ.N=true)(k:AO Γ P ops Q rest ((d,v)::E) H):
  AO Γ P ops Q (o::rest) E H:=AO.opN h hw hd hN (by rintro _ _ ⟨rfl,rfl⟩;exact k)
theorem zb {d:Nat}{v:AV}(k:AO Γ P ops Q rest ((d,v)::E) H)(h:OpW P Γ.N o E H (Is v):=by exact(O.move rfl rfl))(hw:vS ops E o d Γ.N:=by exact⟨rfl,rfl,rfl⟩):AO Γ P ops Q (o::rest) E H:=AO.op h hw.1 hw.2.1 hw.2.2 k
theorem zc {d:Nat}{v:AV}(k:AO Γ P ops Q rest ((d,v)::E) H)(h:OpW P Γ.N o E H (Is v):=by exact(O.assign rfl rfl))(hw:vS ops E o d Γ.N:=by exact⟨rfl,rfl,rfl⟩):AO Γ P ops Q (o::rest) E H:=AO.op h hw.1 hw.2.1 hw.2.2 k
theorem zp {d:Nat}{v:AV}(k:AO Γ P ops Q rest ((d,v)::E) H)(h:OpW P Γ.N o E H (Is v):=by exact(O.load rfl rfl mM (by rfl)))(hw:vS ops E o d Γ.N:=by exact⟨rfl,rfl,rfl⟩):AO Γ P ops Q (o::rest) E H:=AO.op h hw.1 hw.2.1 hw.2.2 k
theorem zq {d:Nat}{v:AV}(k:AO Γ P ops Q rest ((d,v)::E) H)(h:OpW P Γ.N o E H (Is v):=by exact(O.fieldAddr rfl rfl))(hw:vS ops E o d Γ.N:=by exact⟨rfl,rfl,rfl⟩):AO Γ P ops Q (o::rest) E H:=AO.op h hw.1 hw.2.1 hw.2.2 k
theorem zv {d:Nat}{v:AV}(k:AO Γ P ops Q rest ((d,v)::E) H)(h:OpW P Γ.N o E H (Is v):=by exact(O.load rfl rfl (by repeat(exact List.Mem.head _)) (by rfl)))(hw:vS ops E o d Γ.N:=by exact⟨rfl,rfl,rfl⟩):AO Γ P ops Q (o::rest) E H:=AO.op h hw.1 hw.2.1 hw.2.2 k
theorem zA {d:Nat}{v:AV}(k:AO Γ P ops Q rest ((d,v)::E) H)(h:OpW P Γ.N o E H (Is v):=by exact(O.loadK rfl rfl mM (by(dsimp only[List.set,cA,cN,List.take,List.drop];done)) (by rfl)))(hw:vS ops E o d Γ.N:=by exact⟨rfl,rfl,rfl⟩):AO Γ P ops Q (o::rest) E H:=AO.op h hw.1 hw.2.1 hw.2.2 k
theorem zB {d:Nat}{v:AV}(k:AO Γ P ops Q rest ((d,v)::E) H)(h:OpW P Γ.N o E H (Is v):=by exact(O.add rfl rfl rfl (by exact e0J (by omega))))(hw:vS ops E o d Γ.N:=by exact⟨rfl,rfl,rfl⟩):AO Γ P ops Q (o::rest) E H:=AO.op h hw.1 hw.2.1 hw.2.2 k
theorem zC {d:Nat}{v:AV}(k:AO Γ P ops Q rest ((d,v)::E) H)(h:OpW P Γ.N o E H (Is v):=by exact(O.loadK rfl rfl (by repeat(exact List.Mem.head _)) (by(dsimp only[List.set,cA,cN,List.take,List.drop];done)) (by rfl)))(hw:vS ops E o d Γ.N:=by exact⟨rfl,rfl,rfl⟩):AO Γ P ops Q (o::rest) E H:=AO.op h hw.1 hw.2.1 hw.2.2 k
theorem zI {d:Nat}{v:AV}(k:AO Γ P ops Q rest ((d,v)::E) H)(h:OpW P Γ.N o E H (Is v):=by exact(O.pickOr rfl rfl rfl rfl (fun h=>by exact congrArg (fun b=> !b) h)))(hw:vS ops E o d Γ.N:=by exact⟨rfl,rfl,rfl⟩):AO Γ P ops Q (o::rest) E H:=AO.op h hw.1 hw.2.1 hw.2.2 k
theorem zK {d:Nat}{v:AV}(k:AO Γ P ops Q rest ((d,v)::E) H)(h:OpW P Γ.N o E H (Is v):=by exact(O.extract rfl rfl rfl))(hw:vS ops E o d Γ.N:=by exact⟨rfl,rfl,rfl⟩):AO Γ P ops Q (o::rest) E H:=AO.op h hw.1 hw.2.1 hw.2.2 k
theorem zP {d:Nat}{v:AV}(k:AO Γ P ops Q rest ((d,v)::E) H)(h:OpW P Γ.N o E H (Is v):=by exact(O.build rfl rfl rfl (by rfl)))(hw:vS ops E o d Γ.N:=by exact⟨rfl,rfl,rfl⟩):AO Γ P ops Q (o::rest) E H:=AO.op h hw.1 hw.2.1 hw.2.2 k
theorem zT {d:Nat}{v:AV}(k:AO Γ P ops Q rest ((d,v)::E) H)(h:OpW P Γ.N o E H (Is v):=by exact(O.lss rfl rfl rfl (by rfl)))(hw:vS ops E o d Γ.N:=by exact⟨rfl,rfl,rfl⟩):AO Γ P ops Q (o::rest) E H:=AO.op h hw.1 hw.2.1 hw.2.2 k
theorem vO {d:Nat}{v:AV}(h:OpW P Γ.N o E H (Is v))(k:AO Γ P ops Q rest ((d,v)::E) H)(hw:vS ops E o d Γ.N:=by exact⟨rfl,rfl,rfl⟩):AO Γ P ops Q (o::rest) E H:=AO.op h hw.1 hw.2.1 hw.2.2 k
theorem zW {d:Nat}{v:AV}(k:AO Γ P ops Q rest ((d,v)::E) H)(h:OpW P Γ.N o E H (Is v):=by exact(O.pickAnd rfl rfl rfl rfl (fun h=>by exact h)))(hw:vS ops E o d Γ.N:=by exact⟨rfl,rfl,rfl⟩):AO Γ P ops Q (o::rest) E H:=AO.op h hw.1 hw.2.1 hw.2.2 k
theorem zX {d:Nat}{v:AV}(k:AO Γ P ops Q rest ((d,v)::E) H)(h:OpW P Γ.N o E H (Is v):=by exact(O.lenR rfl rfl))(hw:vS ops E o d Γ.N:=by exact⟨rfl,rfl,rfl⟩):AO Γ P ops Q (o::rest) E H:=AO.op h hw.1 hw.2.1 hw.2.2 k
theorem z8 {d:Nat}{v:AV}(k:AO Γ P ops Q rest ((d,v)::E) H)(h:OpW P Γ.N o E H (Is v):=by exact(O.eql rfl rfl rfl (by rfl)))(hw:vS ops E o d Γ.N:=by exact⟨rfl,rfl,rfl⟩):AO Γ P ops Q (o::rest) E H:=AO.op h hw.1 hw.2.1 hw.2.2 k
theorem ye {d:Nat}{v:AV}(k:AO Γ P ops Q rest ((d,v)::E) H)(h:OpW P Γ.N o E H (Is v):=by exact(O.idxR rfl rfl rfl ⟨(by omega),(by omega)⟩))(hw:vS ops E o d Γ.N:=by exact⟨rfl,rfl,rfl⟩):AO Γ P ops Q (o::rest) E H:=AO.op h hw.1 hw.2.1 hw.2.2 k
theorem yN {d:Nat}{v:AV}(k:AO Γ P ops Q rest ((d,v)::E) H)(h:OpW P Γ.N o E H (Is v):=by exact(O.sub rfl rfl rfl (by exact e0J (by omega))))(hw:vS ops E o d Γ.N:=by exact⟨rfl,rfl,rfl⟩):AO Γ P ops Q (o::rest) E H:=AO.op h hw.1 hw.2.1 hw.2.2 k
theorem yZ {d:Nat}{v:AV}(k:AO Γ P ops Q rest ((d,v)::E) H)(h:OpW P Γ.N o E H (Is v):=by exact(O.gtr rfl rfl rfl (by rfl)))(hw:vS ops E o d Γ.N:=by exact⟨rfl,rfl,rfl⟩):AO Γ P ops Q (o::rest) E H:=AO.op h hw.1 hw.2.1 hw.2.2 k
theorem y2 {d:Nat}{v:AV}(k:AO Γ P ops Q rest ((d,v)::E) H)(h:OpW P Γ.N o E H (Is v):=by exact(O.neq rfl rfl rfl (by rfl)))(hw:vS ops E o d Γ.N:=by exact⟨rfl,rfl,rfl⟩):AO Γ P ops Q (o::rest) E H:=AO.op h hw.1 hw.2.1 hw.2.2 k
theorem y3 {d:Nat}{v:AV}(k:AO Γ P ops Q rest ((d,v)::E) H)(h:OpW P Γ.N o E H (Is v):=by exact(O.loadRK rfl rfl (by exact x0q (by omega) (by omega)) (by rfl)))(hw:vS ops E o d Γ.N:=by exact⟨rfl,rfl,rfl⟩):AO Γ P ops Q (o::rest) E H:=AO.op h hw.1 hw.2.1 hw.2.2 k
theorem y8 {d:Nat}{v:AV}(k:AO Γ P ops Q rest ((d,v)::E) H)(h:OpW P Γ.N o E H (Is v):=by exact(O.loadK rfl rfl (by repeat(exact List.Mem.head _)) (by(dsimp only[List.set,List.append,cA,cN,a0w,a0v,a0y,a0e,a0A,AV.cells,List.map,List.map_cons,List.map_nil,List.take,List.drop,Nat.zero_add,Nat.add_zero,Nat.reduceAdd,Nat.reduceMul,Nat.zero_mul,Value.cells,List.toList_toArray,a0x,List.replicate,List.flatten,cP];done)) (by rfl)))(hw:vS ops E o d Γ.N:=by exact⟨rfl,rfl,rfl⟩):AO Γ P ops Q (o::rest) E H:=AO.op h hw.1 hw.2.1 hw.2.2 k
theorem xg {d:Nat}{v:AV}(k:AO Γ P ops Q rest ((d,v)::E) H)(h:OpW P Γ.N o E H (Is v):=by exact(O.conv rfl rfl d0m))(hw:vS ops E o d Γ.N:=by exact⟨rfl,rfl,rfl⟩):AO Γ P ops Q (o::rest) E H:=AO.op h hw.1 hw.2.1 hw.2.2 k
theorem xu {d:Nat}{v:AV}(k:AO Γ P ops Q rest ((d,v)::E) H)(h:OpW P Γ.N o E H (Is v):=by exact(O.not rfl rfl (by rfl)))(hw:vS ops E o d Γ.N:=by exact⟨rfl,rfl,rfl⟩):AO Γ P ops Q (o::rest) E H:=AO.op h hw.1 hw.2.1 hw.2.2 k
theorem xF {d:Nat}{v:AV}(k:AO Γ P ops Q rest ((d,v)::E) H)(h:OpW P Γ.N o E H (Is v):=by exact(O.loadK rfl rfl (by repeat(exact List.Mem.head _)) (by exact List.take_of_length_le (Nat.le_of_eq (a0b _ _))) (by exact a0b _ _)))(hw:vS ops E o d Γ.N:=by exact⟨rfl,rfl,rfl⟩):AO Γ P ops Q (o::rest) E H:=AO.op h hw.1 hw.2.1 hw.2.2 k
theorem xU {d:Nat}{v:AV}(k:AO Γ P ops Q rest ((d,v)::E) H)(h:OpW P Γ.N o E H (Is v):=by exact(O.conv rfl rfl (by exact e0J (by omega))))(hw:vS ops E o d Γ.N:=by exact⟨rfl,rfl,rfl⟩):AO Γ P ops Q (o::rest) E H:=AO.op h hw.1 hw.2.1 hw.2.2 k
theorem xV {d:Nat}{v:AV}(k:AO Γ P ops Q rest ((d,v)::E) H)(h:OpW P Γ.N o E H (Is v):=by exact(O.idxL rfl rfl rfl (by exact⟨by omega,by omega⟩)))(hw:vS ops E o d Γ.N:=by exact⟨rfl,rfl,rfl⟩):AO Γ P ops Q (o::rest) E H:=AO.op h hw.1 hw.2.1 hw.2.2 k
theorem wg {d:Nat}{v:AV}(k:AO Γ P ops Q rest ((d,v)::E) H)(h:OpW P Γ.N o E H (Is v):=by exact(O.conv rfl rfl (by exact q0g (by omega))))(hw:vS ops E o d Γ.N:=by exact⟨rfl,rfl,rfl⟩):AO Γ P ops Q (o::rest) E H:=AO.op h hw.1 hw.2.1 hw.2.2 k
theorem wn {d:Nat}{v:AV}(k:AO Γ P ops Q rest ((d,v)::E) H)(h:OpW P Γ.N o E H (Is v):=by exact(O.rem rfl rfl rfl (by omega) (s0K (by omega))))(hw:vS ops E o d Γ.N:=by exact⟨rfl,rfl,rfl⟩):AO Γ P ops Q (o::rest) E H:=AO.op h hw.1 hw.2.1 hw.2.2 k
theorem wu {d:Nat}{v:AV}(k:AO Γ P ops Q rest ((d,v)::E) H)(h:OpW P Γ.N o E H (Is v):=by exact(O.lenRow rfl rfl (by repeat(exact List.Mem.head _))))(hw:vS ops E o d Γ.N:=by exact⟨rfl,rfl,rfl⟩):AO Γ P ops Q (o::rest) E H:=AO.op h hw.1 hw.2.1 hw.2.2 k
theorem wF {d:Nat}{v:AV}(k:AO Γ P ops Q rest ((d,v)::E) H)(h:OpW P Γ.N o E H (Is v):=by exact(O.mul rfl rfl rfl (by exact e0J (by omega))))(hw:vS ops E o d Γ.N:=by exact⟨rfl,rfl,rfl⟩):AO Γ P ops Q (o::rest) E H:=AO.op h hw.1 hw.2.1 hw.2.2 k
theorem wL {d:Nat}{v:AV}(k:AO Γ P ops Q rest ((d,v)::E) H)(h:OpW P Γ.N o E H (Is v):=by exact(O.quo rfl rfl rfl (by omega) (w0D ⟨by omega,by omega⟩ (by omega))))(hw:vS ops E o d Γ.N:=by exact⟨rfl,rfl,rfl⟩):AO Γ P ops Q (o::rest) E H:=AO.op h hw.1 hw.2.1 hw.2.2 k
theorem wM {d:Nat}{v:AV}(k:AO Γ P ops Q rest ((d,v)::E) H)(h:OpW P Γ.N o E H (Is v):=by exact(O.idxL rfl rfl rfl ⟨(by omega),(by omega)⟩))(hw:vS ops E o d Γ.N:=by exact⟨rfl,rfl,rfl⟩):AO Γ P ops Q (o::rest) E H:=AO.op h hw.1 hw.2.1 hw.2.2 k
theorem wX {d:Nat}{v:AV}(k:AO Γ P ops Q rest ((d,v)::E) H)(h:OpW P Γ.N o E H (Is v):=by exact(O.geq rfl rfl rfl (by rfl)))(hw:vS ops E o d Γ.N:=by exact⟨rfl,rfl,rfl⟩):AO Γ P ops Q (o::rest) E H:=AO.op h hw.1 hw.2.1 hw.2.2 k
theorem wY {d:Nat}{v:AV}(k:AO Γ P ops Q rest ((d,v)::E) H)(h:OpW P Γ.N o E H (Is v):=by exact(O.loadK rfl rfl mM (by(dsimp only[List.set,List.append,cA,cN,a0w,a0v,a0y,a0e,a0A,AV.cells,List.map,List.map_cons,List.map_nil,List.take,List.drop,Nat.zero_add,Nat.add_zero,Nat.reduceAdd,Nat.reduceMul,Nat.zero_mul,Value.cells,List.toList_toArray,a0x,List.replicate,List.flatten,cP];done)) (by rfl)))(hw:vS ops E o d Γ.N:=by exact⟨rfl,rfl,rfl⟩):AO Γ P ops Q (o::rest) E H:=AO.op h hw.1 hw.2.1 hw.2.2 k
theorem vg {d:Nat}{v:AV}(k:AO Γ P ops Q rest ((d,v)::E) H)(h:OpW P Γ.N o E H (Is v):=by exact(O.shrK 8 256 rfl rfl rfl rfl (by rfl)))(hw:vS ops E o d Γ.N:=by exact⟨rfl,rfl,rfl⟩):AO Γ P ops Q (o::rest) E H:=AO.op h hw.1 hw.2.1 hw.2.2 k
theorem vn {d:Nat}{v:AV}(k:AO Γ P ops Q rest ((d,v)::E) H)(h:OpW P Γ.N o E H (Is v):=by exact(O.loadK rfl rfl (by repeat(exact List.Mem.head _)) (by exact n0A _) (by rfl)))(hw:vS ops E o d Γ.N:=by exact⟨rfl,rfl,rfl⟩):AO Γ P ops Q (o::rest) E H:=AO.op h hw.1 hw.2.1 hw.2.2 k
theorem vp {d:Nat}{v:AV}(k:AO Γ P ops Q rest ((d,v)::E) H)(h:OpW P Γ.N o E H (Is v):=by exact(O.idxV rfl rfl rfl ⟨(by omega),(by omega)⟩))(hw:vS ops E o d Γ.N:=by exact⟨rfl,rfl,rfl⟩):AO Γ P ops Q (o::rest) E H:=AO.op h hw.1 hw.2.1 hw.2.2 k
theorem vu {d:Nat}{v:AV}(k:AO Γ P ops Q rest ((d,v)::E) H)(h:OpW P Γ.N o E H (Is v):=by exact(O.loadK rfl rfl mM (by exact List.take_of_length_le (Nat.le_of_eq (a0b _ _))) (by exact a0b _ _)))(hw:vS ops E o d Γ.N:=by exact⟨rfl,rfl,rfl⟩):AO Γ P ops Q (o::rest) E H:=AO.op h hw.1 hw.2.1 hw.2.2 k
theorem vA {d:Nat}{v:AV}(k:AO Γ P ops Q rest ((d,v)::E) H)(h:OpW P Γ.N o E H (Is v):=by exact(O.nilCheck rfl rfl))(hw:vS ops E o d Γ.N:=by exact⟨rfl,rfl,rfl⟩):AO Γ P ops Q (o::rest) E H:=AO.op h hw.1 hw.2.1 hw.2.2 k
theorem vE {d:Nat}{v:AV}(k:AO Γ P ops Q rest ((d,v)::E) H)(h:OpW P Γ.N o E H (Is v):=by exact(O.xor_ rfl rfl rfl u0G))(hw:vS ops E o d Γ.N:=by exact⟨rfl,rfl,rfl⟩):AO Γ P ops Q (o::rest) E H:=AO.op h hw.1 hw.2.1 hw.2.2 k
theorem AO.opG {d:Nat}{c:Bool}{v:AV}(hw:a0S ops E o=some c)(hd:o.dst=some d)(hN:Nat.ble (d+1) Γ.N=true)(h:c=true→OpW P Γ.N o E H (Is v))(k:AO Γ P ops Q rest ((d,.opt c v)::E) H):
  AO Γ P ops Q (o::rest) E H:=AO.opF (.opt hw h) hd (lB hN) (by rintro _ _ ⟨rfl,rfl⟩;exact k)
theorem zN {d:Nat}{c:Bool}{v:AV}(k:AO Γ P ops Q rest ((d,.opt c v)::E) H)(hw:a0S ops E o=some c:=by exact rfl)(hd:o.dst=some d:=by exact rfl)(hN:Nat.ble (d+1) Γ.N=true:=by exact rfl)(h:c=true→OpW P Γ.N o E H (Is v):=by exact(fun hp=>O.fieldAddr rfl rfl)):AO Γ P ops Q (o::rest) E H:=AO.opG hw hd hN h k
theorem yC {d:Nat}{c:Bool}{v:AV}(k:AO Γ P ops Q rest ((d,.opt c v)::E) H)(hw:a0S ops E o=some c:=by exact rfl)(hd:o.dst=some d:=by exact rfl)(hN:Nat.ble (d+1) Γ.N=true:=by exact rfl)(h:c=true→OpW P Γ.N o E H (Is v):=by exact(fun hp=>O.move rfl rfl)):AO Γ P ops Q (o::rest) E H:=AO.opG hw hd hN h k
theorem wx {d:Nat}{c:Bool}{v:AV}(k:AO Γ P ops Q rest ((d,.opt c v)::E) H)(hw:a0S ops E o=some c:=by exact rfl)(hd:o.dst=some d:=by exact rfl)(hN:Nat.ble (d+1) Γ.N=true:=by exact rfl)(h:c=true→OpW P Γ.N o E H (Is v):=by exact(fun hp=>O.loadK rfl rfl mM (by(dsimp only[List.set,cA,cN,List.take,List.drop];done)) (by rfl))):AO Γ P ops Q (o::rest) E H:=AO.opG hw hd hN h k
theorem AO.opY {d:Nat}{c c':Bool}{v x:AV}(t:Nat)(k:AO Γ P ops Q rest ((d,.opt c v)::E) H)(hw:a0S ops E o=some c)(hd:o.dst=some d)(hN:Nat.ble (d+1) Γ.N=true)(ht:a0r E t=some (.opt c' x))(hc:c=true→c'=true)(h:c=true→OpW P Γ.N o ((t,x)::E) H (Is v)):AO Γ P ops Q (o::rest) E H:=AO.opG hw hd hN (fun hp=>OpW.force t ht (hc hp) (h hp)) k
theorem zw {d:Nat}{c c':Bool}{v x:AV}(t:Nat)(k:AO Γ P ops Q rest ((d,.opt c v)::E) H)(hw:a0S ops E o=some c:=by exact rfl)(hd:o.dst=some d:=by exact rfl)(hN:Nat.ble (d+1) Γ.N=true:=by exact rfl)(ht:a0r E t=some (.opt c' x):=by exact rfl)(hc:c=true→c'=true:=by exact(fun hp=>hp))(h:c=true→OpW P Γ.N o ((t,x)::E) H (Is v):=by exact(fun hp=>O.load rfl rfl (by repeat(exact List.Mem.head _)) (by rfl))):AO Γ P ops Q (o::rest) E H:=AO.opY t k hw hd hN ht hc h
theorem yb {d:Nat}{c c':Bool}{v x:AV}(t:Nat)(k:AO Γ P ops Q rest ((d,.opt c v)::E) H)(hw:a0S ops E o=some c:=by exact rfl)(hd:o.dst=some d:=by exact rfl)(hN:Nat.ble (d+1) Γ.N=true:=by exact rfl)(ht:a0r E t=some (.opt c' x):=by exact rfl)(hc:c=true→c'=true:=by exact(fun hp=>hp))(h:c=true→OpW P Γ.N o ((t,x)::E) H (Is v):=by exact(fun hp=>O.lenR rfl rfl)):AO Γ P ops Q (o::rest) E H:=AO.opY t k hw hd hN ht hc h
theorem yn {d:Nat}{c c':Bool}{v x:AV}(t:Nat)(k:AO Γ P ops Q rest ((d,.opt c v)::E) H)(hw:a0S ops E o=some c:=by exact rfl)(hd:o.dst=some d:=by exact rfl)(hN:Nat.ble (d+1) Γ.N=true:=by exact rfl)(ht:a0r E t=some (.opt c' x):=by exact rfl)(hc:c=true→c'=true:=by exact(fun hp=>hp))(h:c=true→OpW P Γ.N o ((t,x)::E) H (Is v):=by exact(fun hp=>O.load rfl rfl mM (by rfl))):AO Γ P ops Q (o::rest) E H:=AO.opY t k hw hd hN ht hc h
theorem yB {d:Nat}{c c':Bool}{v x:AV}(t:Nat)(k:AO Γ P ops Q rest ((d,.opt c v)::E) H)(hw:a0S ops E o=some c:=by exact rfl)(hd:o.dst=some d:=by exact rfl)(hN:Nat.ble (d+1) Γ.N=true:=by exact rfl)(ht:a0r E t=some (.opt c' x):=by exact rfl)(hc:c=true→c'=true:=by exact(fun hp=>hp))(h:c=true→OpW P Γ.N o ((t,x)::E) H (Is v):=by exact(fun hp=>O.gtr rfl rfl rfl (by rfl))):AO Γ P ops Q (o::rest) E H:=AO.opY t k hw hd hN ht hc h
theorem xc {d:Nat}{c c':Bool}{v x:AV}(t:Nat)(k:AO Γ P ops Q rest ((d,.opt c v)::E) H)(hw:a0S ops E o=some c:=by exact rfl)(hd:o.dst=some d:=by exact rfl)(hN:Nat.ble (d+1) Γ.N=true:=by exact rfl)(ht:a0r E t=some (.opt c' x):=by exact rfl)(hc:c=true→c'=true:=by exact(fun hp=>hp))(h:c=true→OpW P Γ.N o ((t,x)::E) H (Is v):=by exact(fun hp=>O.not rfl rfl (by rfl))):AO Γ P ops Q (o::rest) E H:=AO.opY t k hw hd hN ht hc h
theorem xe {d:Nat}{c c':Bool}{v x:AV}(t:Nat)(k:AO Γ P ops Q rest ((d,.opt c v)::E) H)(hw:a0S ops E o=some c:=by exact rfl)(hd:o.dst=some d:=by exact rfl)(hN:Nat.ble (d+1) Γ.N=true:=by exact rfl)(ht:a0r E t=some (.opt c' x):=by exact rfl)(hc:c=true→c'=true:=by exact(fun hp=>hp))(h:c=true→OpW P Γ.N o ((t,x)::E) H (Is v):=by exact(fun hp=>O.eql rfl rfl rfl (by rfl))):AO Γ P ops Q (o::rest) E H:=AO.opY t k hw hd hN ht hc h
theorem xJ {d:Nat}{c c':Bool}{v x:AV}(t:Nat)(k:AO Γ P ops Q rest ((d,.opt c v)::E) H)(hw:a0S ops E o=some c:=by exact rfl)(hd:o.dst=some d:=by exact rfl)(hN:Nat.ble (d+1) Γ.N=true:=by exact rfl)(ht:a0r E t=some (.opt c' x):=by exact rfl)(hc:c=true→c'=true:=by exact(fun hp=>hp))(h:c=true→OpW P Γ.N o ((t,x)::E) H (Is v):=by exact(fun hp=>O.leq rfl rfl rfl (by rfl))):AO Γ P ops Q (o::rest) E H:=AO.opY t k hw hd hN ht hc h
theorem xW {d:Nat}{c c':Bool}{v x:AV}(t:Nat)(k:AO Γ P ops Q rest ((d,.opt c v)::E) H)(hw:a0S ops E o=some c:=by exact rfl)(hd:o.dst=some d:=by exact rfl)(hN:Nat.ble (d+1) Γ.N=true:=by exact rfl)(ht:a0r E t=some (.opt c' x):=by exact rfl)(hc:c=true→c'=true:=by exact(fun hp=>hp))(h:c=true→OpW P Γ.N o ((t,x)::E) H (Is v):=by exact(fun hp=>O.neq rfl rfl rfl (by rfl))):AO Γ P ops Q (o::rest) E H:=AO.opY t k hw hd hN ht hc h
theorem wQ {d:Nat}{c c':Bool}{v x:AV}(t:Nat)(k:AO Γ P ops Q rest ((d,.opt c v)::E) H)(hw:a0S ops E o=some c:=by exact rfl)(hd:o.dst=some d:=by exact rfl)(hN:Nat.ble (d+1) Γ.N=true:=by exact rfl)(ht:a0r E t=some (.opt c' x):=by exact rfl)(hc:c=true→c'=true:=by exact(fun hp=>hp))(h:c=true→OpW P Γ.N o ((t,x)::E) H (Is v):=by exact(fun hp=>O.move rfl rfl)):AO Γ P ops Q (o::rest) E H:=AO.opY t k hw hd hN ht hc h
theorem va {d:Nat}{c c':Bool}{v x:AV}(t:Nat)(k:AO Γ P ops Q rest ((d,.opt c v)::E) H)(hw:a0S ops E o=some c:=by exact rfl)(hd:o.dst=some d:=by exact rfl)(hN:Nat.ble (d+1) Γ.N=true:=by exact rfl)(ht:a0r E t=some (.opt c' x):=by exact rfl)(hc:c=true→c'=true:=by exact(fun hp=>hp))(h:c=true→OpW P Γ.N o ((t,x)::E) H (Is v):=by exact(fun hp=>O.pickAnd rfl rfl rfl rfl (fun h=>by simp_all))):AO Γ P ops Q (o::rest) E H:=AO.opY t k hw hd hN ht hc h
theorem AO.opZ {d:Nat}{c c1 c2:Bool}{v x y:AV}(t s:Nat)(k:AO Γ P ops Q rest ((d,.opt c v)::E) H)(hw:a0S ops E o=some c)(hd:o.dst=some d)(hN:Nat.ble (d+1) Γ.N=true)(ht:a0r E t=some (.opt c1 x))(hc:c=true→c1=true)(hs:a0r ((t,x)::E) s=some (.opt c2 y))(hc2:c=true→c2=true)(h:c=true→OpW P Γ.N o ((s,y)::(t,x)::E) H (Is v)):AO Γ P ops Q (o::rest) E H:=AO.opG hw hd hN (fun hp=>OpW.force t ht (hc hp) (OpW.force s hs (hc2 hp) (h hp))) k
theorem AO.no {d:Nat}(hw:a0f ops E o=some false)(hd:o.dst=some d)(hN:Nat.ble (d+1) Γ.N=true)(k:AO Γ P ops Q rest ((d,.val undef)::E) H):AO Γ P ops Q (o::rest) E H:=
 AO.opF (.no hw) hd (lB hN) (by rintro _ _ ⟨rfl,rfl⟩;exact k)
theorem AW.region {id:Nat}{l:List Oper}(h:AO Γ P l.toArray Q l E H):AW Γ P Q (.region id l.toArray false) E H:=fun R a W hs ha=>wp_region_lit (h R a W hs ha)
theorem zr {id:Nat}{l:List Oper}(h:AO Γ P l.toArray Q l E H):AW Γ P Q (.region id l.toArray false) E H:=AW.region h
theorem Post1.same {R:Nat→Prop}{W:World}{v:AV}{u:Value}(hR: ∀b,R b→b<W.heap.size)(h:RelV R W v u):Post1 R W v [] u W R:=
 ⟨Mods.refl _ _,fun _ h=>h,fun _ h=> .inl h,h,fun _ he=>(by cases he),.nil⟩
theorem OpW.of_run {v:AV}(h: ∀R a W,(∀b,R b→b<W.heap.size)→(∀e∈H,e.ok R W)→RelA N R W E a→ ∃u,(execOp a.eval o).run P W= .ok (.value u) W∧RelV R W v u):OpW P N o E H (Is v):=fun R a W h1 h2 h3 h4=>by
 obtain⟨u,hr,hv⟩:=h R a W h1 h2 h4
 unfold Oper.wp
 rw[hr]
 exact⟨u,v,[],R,rfl,⟨rfl,rfl⟩,Post1.same h1 hv⟩
end
class TyD (P:Program) (T:Nat) (d:outParam TypeDesc):Prop where
 ax:P.underlying T=some d
class TyN (P:Program) (T:Nat) (k bs:outParam Nat) (z:outParam Value):Prop where
 ax: ∃i,P.info? T=some i∧i.size=k∧i.bytes=bs∧i.zero=some z
class TyG (P:Program) (T:Nat) (g:outParam Bool) (k:outParam Nat):Prop where
 ax: ∃d i,P.underlying T=some d∧P.info? T=some i∧i.size=k∧(match d with| .struct _| .array _ _=>true|_=>false)=g
class TyS (P:Program) (T:Nat) (U k bs:outParam Nat) (z:outParam Value):Prop where
 ty:P.underlying T=some (.slice U)
 el: ∃i,P.info? U=some i∧i.size=k∧i.bytes=bs∧i.zero=some z
class TyL (P:Program) (T:Nat) (n k:outParam Nat):Prop where
 ax: ∃U i,P.underlying T=some (.array n U)∧P.info? U=some i∧i.size=k
class TyF (P:Program) (T f:Nat) (off:outParam Nat):Prop where
 ax: ∃fs fld i,P.underlying T=some (.struct fs)∧fs[f]? =some fld∧fld.offset=off∧P.info? fld.type=some i∧i.size≠0
section
variable {P:Program}{E:Env}{H:List HE}{N:Nat}{o:Oper}
theorem O.move {x:Operand}{v:AV}(ho:o.op= .move x)(hx:ev E x=some v):OpW P N o E H (Is v):= .of_run fun R a W h1 h2 ha=>
 ⟨a.eval x,by simp only[execOp,ho];rfl,ha.ev hx⟩
theorem zg {x:Operand}{v:AV}(ho:o.op= .move x:=by exact rfl)(hx:ev E x=some v:=by exact rfl):OpW P N o E H (Is v):=O.move ho hx
theorem O.assign {x:Operand}{v:AV}(ho:o.op= .assign x)(hx:ev E x=some v):OpW P N o E H (Is v):= .of_run fun R a W h1 h2 ha=>
 ⟨a.eval x,by simp only[execOp,ho];rfl,ha.ev hx⟩
theorem zj {x:Operand}{v:AV}(ho:o.op= .assign x:=by exact rfl)(hx:ev E x=some v:=by exact rfl):OpW P N o E H (Is v):=O.assign ho hx
theorem O.pickT {c x y:Operand}{v:AV}(ho:o.op= .pick c x y)(hc:ev E c=some (.val (.bool true)))(hx:ev E x=some v):OpW P N o E H (Is v):= .of_run fun R a W h1 h2 ha=>
 ⟨a.eval x,by simp only[execOp,ho,(ha.ev hc).val_inv];rfl,ha.ev hx⟩
theorem O.pickF {c x y:Operand}{v:AV}(ho:o.op= .pick c x y)(hc:ev E c=some (.val (.bool false)))(hy:ev E y=some v):OpW P N o E H (Is v):= .of_run fun R a W h1 h2 ha=>
 ⟨a.eval y,by simp only[execOp,ho,(ha.ev hc).val_inv];rfl,ha.ev hy⟩
theorem O.pickAnd {c x y:Operand}{p q z:Bool}(ho:o.op= .pick c x y)(hc:ev E c=some (.val (.bool p)))(hx:ev E x=some (.opt q (.val (.bool z))))(hy:ev E y=some (.val (.bool false)))(hq:p=true→q=true):OpW P N o E H (Is (.val (.bool (p&&z)))):= .of_run fun R a W h1 h2 ha=>
 ⟨.bool (p&&z),by
  cases p
  ·simp only[execOp,ho,(ha.ev hc).val_inv,(ha.ev hy).val_inv];rfl
  ·simp only[execOp,ho,(ha.ev hc).val_inv,((ha.ev hx).opt_inv.1 (hq rfl)).val_inv];rfl,.val _⟩
theorem ym {c x y:Operand}{p q z:Bool}(ho:o.op= .pick c x y:=by exact rfl)(hc:ev E c=some (.val (.bool p)):=by exact rfl)(hx:ev E x=some (.opt q (.val (.bool z))):=by exact rfl)(hy:ev E y=some (.val (.bool false)):=by exact rfl)(hq:p=true→q=true:=by exact(fun h=>by exact h)):OpW P N o E H (Is (.val (.bool (p&&z)))):=O.pickAnd ho hc hx hy hq
theorem O.pickOr {c x y:Operand}{p q z:Bool}(ho:o.op= .pick c x y)(hc:ev E c=some (.val (.bool p)))(hx:ev E x=some (.val (.bool true)))(hy:ev E y=some (.opt q (.val (.bool z))))(hq:p=false→q=true):OpW P N o E H (Is (.val (.bool (p||z)))):= .of_run fun R a W h1 h2 ha=>
 ⟨.bool (p||z),by
  cases p
  ·simp only[execOp,ho,(ha.ev hc).val_inv,((ha.ev hy).opt_inv.1 (hq rfl)).val_inv];rfl
  ·simp only[execOp,ho,(ha.ev hc).val_inv,(ha.ev hx).val_inv];rfl,.val _⟩
theorem zO {c x y:Operand}{p q z:Bool}(ho:o.op= .pick c x y:=by exact rfl)(hc:ev E c=some (.val (.bool p)):=by exact rfl)(hx:ev E x=some (.val (.bool true)):=by exact rfl)(hy:ev E y=some (.opt q (.val (.bool z))):=by exact rfl)(hq:p=false→q=true:=by exact(fun h=>by exact congrArg (fun b=> !b) h)):OpW P N o E H (Is (.val (.bool (p||z)))):=O.pickOr ho hc hx hy hq
theorem O.bin {op:BinOp}{T T':Nat}{x y:Operand}{u w:Value}{v:Value}(ho:o.op= .binOp op T x y T')(hx:ev E x=some (.val u))(hy:ev E y=some (.val w))
  (hr: ∀W,(do eqGuard op T x y u w;binOp op T u w:Sem Value).run P W= .ok v W):OpW P N o E H (Is (.val v)):= .of_run fun R a W h1 h2 ha=>
 ⟨v,by
  simp only[execOp,ho,(ha.ev hx).val_inv,(ha.ev hy).val_inv]
  rw[Sem.run_bind,hr W];rfl,.val _⟩
theorem O.binI {op:BinOp}{T T':Nat}{x y:Operand}{k:IntKind}{p q:Int}{v:Value}(ho:o.op= .binOp op T x y T')(hx:ev E x=some (.val (.int k p)))(hy:ev E y=some (.val (.int k q)))
  (hr: ∀W,(binOp op T (.int k p) (.int k q)).run P W= .ok v W):OpW P N o E H (Is (.val v)):=O.bin ho hx hy fun W=>by
 have:(eqGuard op T x y (.int k p) (.int k q)).run P W= .ok () W:=by
  unfold eqGuard;split<;>rfl
 rw[Sem.run_bind,this];exact hr W
theorem O.add {T T':Nat}{x y:Operand}{k:IntKind}{p q c:Int}(ho:o.op= .binOp .add T x y T')(hx:ev E x=some (.val (.int k p)))(hy:ev E y=some (.val (.int k q)))(hc:k.wrap (p+q)=c):
  OpW P N o E H (Is (.val (.int k c))):=O.binI ho hx hy fun W=>by simp[binOp,Op.intArith,hc]
theorem zG {T T':Nat}{x y:Operand}{k:IntKind}{p q c:Int}(ho:o.op= .binOp .add T x y T':=by exact rfl)(hx:ev E x=some (.val (.int k p)):=by exact rfl)(hy:ev E y=some (.val (.int k q)):=by exact rfl)(hc:k.wrap (p+q)=c:=by exact e0J (by omega)):OpW P N o E H (Is (.val (.int k c))):=O.add ho hx hy hc
theorem O.sub {T T':Nat}{x y:Operand}{k:IntKind}{p q c:Int}(ho:o.op= .binOp .sub T x y T')(hx:ev E x=some (.val (.int k p)))(hy:ev E y=some (.val (.int k q)))(hc:k.wrap (p-q)=c):
  OpW P N o E H (Is (.val (.int k c))):=O.binI ho hx hy fun W=>by simp[binOp,Op.intArith,hc]
theorem yK {T T':Nat}{x y:Operand}{k:IntKind}{p q c:Int}(ho:o.op= .binOp .sub T x y T':=by exact rfl)(hx:ev E x=some (.val (.int k p)):=by exact rfl)(hy:ev E y=some (.val (.int k q)):=by exact rfl)(hc:k.wrap (p-q)=c:=by exact e0J (by omega)):OpW P N o E H (Is (.val (.int k c))):=O.sub ho hx hy hc
theorem O.mul {T T':Nat}{x y:Operand}{k:IntKind}{p q c:Int}(ho:o.op= .binOp .mul T x y T')(hx:ev E x=some (.val (.int k p)))(hy:ev E y=some (.val (.int k q)))(hc:k.wrap (p*q)=c):
  OpW P N o E H (Is (.val (.int k c))):=O.binI ho hx hy fun W=>by simp[binOp,Op.intArith,hc]
theorem xt {T T':Nat}{x y:Operand}{k:IntKind}{p q c:Int}(ho:o.op= .binOp .mul T x y T':=by exact rfl)(hx:ev E x=some (.val (.int k p)):=by exact rfl)(hy:ev E y=some (.val (.int k q)):=by exact rfl)(hc:k.wrap (p*q)=c:=by exact e0J (by omega)):OpW P N o E H (Is (.val (.int k c))):=O.mul ho hx hy hc
theorem O.quo {T T':Nat}{x y:Operand}{k:IntKind}{p q c:Int}(ho:o.op= .binOp .quo T x y T')(hx:ev E x=some (.val (.int k p)))(hy:ev E y=some (.val (.int k q)))(h0:q≠0)(hc:k.wrap (p.tdiv q)=c):
  OpW P N o E H (Is (.val (.int k c))):=O.binI ho hx hy fun W=>by simp[binOp,Op.intDiv,hc,h0]
theorem vw {T T':Nat}{x y:Operand}{k:IntKind}{p q c:Int}(ho:o.op= .binOp .quo T x y T':=by exact rfl)(hx:ev E x=some (.val (.int k p)):=by exact rfl)(hy:ev E y=some (.val (.int k q)):=by exact rfl)(h0:q≠0:=by omega)(hc:k.wrap (p.tdiv q)=c:=by exact(w0D ⟨by omega,by omega⟩ (by omega))):OpW P N o E H (Is (.val (.int k c))):=O.quo ho hx hy h0 hc
theorem O.rem {T T':Nat}{x y:Operand}{k:IntKind}{p q c:Int}(ho:o.op= .binOp .rem T x y T')(hx:ev E x=some (.val (.int k p)))(hy:ev E y=some (.val (.int k q)))(h0:q≠0)(hc:p.tmod q=c):
  OpW P N o E H (Is (.val (.int k c))):=O.binI ho hx hy fun W=>by simp[binOp,Op.intDiv,hc,h0]
theorem wh {T T':Nat}{x y:Operand}{k:IntKind}{p q c:Int}(ho:o.op= .binOp .rem T x y T':=by exact rfl)(hx:ev E x=some (.val (.int k p)):=by exact rfl)(hy:ev E y=some (.val (.int k q)):=by exact rfl)(h0:q≠0:=by omega)(hc:p.tmod q=c:=by exact(s0K (by omega))):OpW P N o E H (Is (.val (.int k c))):=O.rem ho hx hy h0 hc
theorem O.lss {T T':Nat}{x y:Operand}{k:IntKind}{p q:Int}{c:Bool}(ho:o.op= .binOp .lss T x y T')(hx:ev E x=some (.val (.int k p)))(hy:ev E y=some (.val (.int k q)))(hc:decide (p<q)=c):
  OpW P N o E H (Is (.val (.bool c))):=O.binI ho hx hy fun W=>by simp[binOp,Op.intCmp,←hc]
theorem yy {T T':Nat}{x y:Operand}{k:IntKind}{p q:Int}{c:Bool}(ho:o.op= .binOp .lss T x y T':=by exact rfl)(hx:ev E x=some (.val (.int k p)):=by exact rfl)(hy:ev E y=some (.val (.int k q)):=by exact rfl)(hc:decide (p<q)=c:=by rfl):OpW P N o E H (Is (.val (.bool c))):=O.lss ho hx hy hc
theorem O.leq {T T':Nat}{x y:Operand}{k:IntKind}{p q:Int}{c:Bool}(ho:o.op= .binOp .leq T x y T')(hx:ev E x=some (.val (.int k p)))(hy:ev E y=some (.val (.int k q)))(hc:decide (p≤q)=c):
  OpW P N o E H (Is (.val (.bool c))):=O.binI ho hx hy fun W=>by simp[binOp,Op.intCmp,←hc]
theorem wI {T T':Nat}{x y:Operand}{k:IntKind}{p q:Int}{c:Bool}(ho:o.op= .binOp .leq T x y T':=by exact rfl)(hx:ev E x=some (.val (.int k p)):=by exact rfl)(hy:ev E y=some (.val (.int k q)):=by exact rfl)(hc:decide (p≤q)=c:=by rfl):OpW P N o E H (Is (.val (.bool c))):=O.leq ho hx hy hc
theorem O.gtr {T T':Nat}{x y:Operand}{k:IntKind}{p q:Int}{c:Bool}(ho:o.op= .binOp .gtr T x y T')(hx:ev E x=some (.val (.int k p)))(hy:ev E y=some (.val (.int k q)))(hc:decide (q<p)=c):
  OpW P N o E H (Is (.val (.bool c))):=O.binI ho hx hy fun W=>by simp[binOp,Op.intCmp,←hc]
theorem yT {T T':Nat}{x y:Operand}{k:IntKind}{p q:Int}{c:Bool}(ho:o.op= .binOp .gtr T x y T':=by exact rfl)(hx:ev E x=some (.val (.int k p)):=by exact rfl)(hy:ev E y=some (.val (.int k q)):=by exact rfl)(hc:decide (q<p)=c:=by rfl):OpW P N o E H (Is (.val (.bool c))):=O.gtr ho hx hy hc
theorem O.geq {T T':Nat}{x y:Operand}{k:IntKind}{p q:Int}{c:Bool}(ho:o.op= .binOp .geq T x y T')(hx:ev E x=some (.val (.int k p)))(hy:ev E y=some (.val (.int k q)))(hc:decide (q≤p)=c):
  OpW P N o E H (Is (.val (.bool c))):=O.binI ho hx hy fun W=>by simp[binOp,Op.intCmp,←hc]
theorem vC {T T':Nat}{x y:Operand}{k:IntKind}{p q:Int}{c:Bool}(ho:o.op= .binOp .geq T x y T':=by exact rfl)(hx:ev E x=some (.val (.int k p)):=by exact rfl)(hy:ev E y=some (.val (.int k q)):=by exact rfl)(hc:decide (q≤p)=c:=by rfl):OpW P N o E H (Is (.val (.bool c))):=O.geq ho hx hy hc
theorem O.eql {T T':Nat}{x y:Operand}{k:IntKind}{p q:Int}{c:Bool}(ho:o.op= .binOp .eql T x y T')(hx:ev E x=some (.val (.int k p)))(hy:ev E y=some (.val (.int k q)))(hc:(p==q)=c):
  OpW P N o E H (Is (.val (.bool c))):=O.binI ho hx hy fun W=>by simp[binOp,Op.intCmp,←hc]
theorem yG {T T':Nat}{x y:Operand}{k:IntKind}{p q:Int}{c:Bool}(ho:o.op= .binOp .eql T x y T':=by exact rfl)(hx:ev E x=some (.val (.int k p)):=by exact rfl)(hy:ev E y=some (.val (.int k q)):=by exact rfl)(hc:(p==q)=c:=by rfl):OpW P N o E H (Is (.val (.bool c))):=O.eql ho hx hy hc
theorem O.neq {T T':Nat}{x y:Operand}{k:IntKind}{p q:Int}{c:Bool}(ho:o.op= .binOp .neq T x y T')(hx:ev E x=some (.val (.int k p)))(hy:ev E y=some (.val (.int k q)))(hc:(p !=q)=c):
  OpW P N o E H (Is (.val (.bool c))):=O.binI ho hx hy fun W=>by simp[binOp,Op.intCmp,←hc]
theorem xn {T T':Nat}{x y:Operand}{k:IntKind}{p q:Int}{c:Bool}(ho:o.op= .binOp .neq T x y T':=by exact rfl)(hx:ev E x=some (.val (.int k p)):=by exact rfl)(hy:ev E y=some (.val (.int k q)):=by exact rfl)(hc:(p !=q)=c:=by rfl):OpW P N o E H (Is (.val (.bool c))):=O.neq ho hx hy hc
theorem O.shl {T T':Nat}{x y:Operand}{k k':IntKind}{p q c:Int}(ho:o.op= .binOp .shl T x y T')(hx:ev E x=some (.val (.int k p)))(hy:ev E y=some (.val (.int k' q)))(h0:0≤q)(hc:k.wrap (p*2^ (min q.toNat k.bits))=c):
  OpW P N o E H (Is (.val (.int k c))):=O.bin ho hx hy fun W=>by
 have: ¬q<0:=by omega
 simp[eqGuard,binOp,Op.shift,this,hc]
theorem O.shr {T T':Nat}{x y:Operand}{k k':IntKind}{p q c:Int}(ho:o.op= .binOp .shr T x y T')(hx:ev E x=some (.val (.int k p)))(hy:ev E y=some (.val (.int k' q)))(h0:0≤q)(hc:p.fdiv (2^ (min q.toNat k.bits))=c):
  OpW P N o E H (Is (.val (.int k c))):=O.bin ho hx hy fun W=>by
 have: ¬q<0:=by omega
 simp[eqGuard,binOp,Op.shift,this,hc]
theorem O.bits {op:BinOp}{T T':Nat}{x y:Operand}{k:IntKind}{p q c:Int}(ho:o.op= .binOp op T x y T')(hop:(match op with| .and| .or| .xor| .andNot=>true|_=>false)=true)(hx:ev E x=some (.val (.int k p)))(hy:ev E y=some (.val (.int k q)))
  (hc: ∀W,(Op.intBits op k p q).run P W= .ok (.int k c) W):OpW P N o E H (Is (.val (.int k c))):=O.binI ho hx hy fun W=>by
 cases op<;>first|(cases hop;done)|(simp[binOp];exact hc W)
theorem j0w {T:Nat}[TyD P T .bool](d:Nat)(p q:Bool)(W:World):(Op.equalIn (d+1) T (.bool p) (.bool q)).run P W= .ok (p==q) W:=by
 simp[Op.equalIn,run_underlying (TyD.ax (P:=P) (T:=T))]
theorem m0Y {T:Nat}[TyD P T .bool](p q:Bool)(W:World):(Op.equal T (.bool p) (.bool q)).run P W= .ok (p==q) W:=j0w (P:=P) 9999 p q W
theorem O.neqB {T T':Nat}[TyD P T .bool]{x y:Operand}{p q:Bool}{c:Bool}(ho:o.op= .binOp .neq T x y T')(hx:ev E x=some (.val (.bool p)))(hy:ev E y=some (.val (.bool q)))(hc:(p !=q)=c):
  OpW P N o E H (Is (.val (.bool c))):=O.bin ho hx hy fun W=>by
 have h1:(eqGuard .neq T x y (.bool p) (.bool q)).run P W= .ok () W:=by unfold eqGuard;split<;>rfl
 rw[Sem.run_bind,h1]
 show(binOp .neq T (.bool p) (.bool q)).run P W=_
 rw[show binOp .neq T (.bool p) (.bool q)=(do pure (.bool (!(←Op.equal T (.bool p) (.bool q)))))from rfl,Sem.run_bind,m0Y,←hc]
 rfl
theorem O.eqlS {T T':Nat}{x y:Operand}{p q:ByteArray}{c:Bool}(ho:o.op= .binOp .eql T x y T')(hx:ev E x=some (.val (.string p)))(hy:ev E y=some (.val (.string q)))(hc:(p.toList==q.toList)=c):
  OpW P N o E H (Is (.val (.bool c))):=O.bin ho hx hy fun W=>by simp[eqGuard,binOp,Op.stringOp,hc]
theorem O.neqS {T T':Nat}{x y:Operand}{p q:ByteArray}{c:Bool}(ho:o.op= .binOp .neq T x y T')(hx:ev E x=some (.val (.string p)))(hy:ev E y=some (.val (.string q)))(hc:(p.toList !=q.toList)=c):
  OpW P N o E H (Is (.val (.bool c))):=O.bin ho hx hy fun W=>by simp[eqGuard,binOp,Op.stringOp,←hc,bne]
theorem O.not {T:Nat}{x:Operand}{p c:Bool}(ho:o.op= .unOp .not T x)(hx:ev E x=some (.val (.bool p)))(hc:(!p)=c):OpW P N o E H (Is (.val (.bool c))):= .of_run fun R a W h1 h2 ha=>
 ⟨.bool c,by simp[execOp,ho,(ha.ev hx).val_inv,Op.unary,hc],.val _⟩
theorem xA {T:Nat}{x:Operand}{p c:Bool}(ho:o.op= .unOp .not T x:=by exact rfl)(hx:ev E x=some (.val (.bool p)):=by exact rfl)(hc:(!p)=c:=by rfl):OpW P N o E H (Is (.val (.bool c))):=O.not ho hx hc
theorem O.neg {T:Nat}{x:Operand}{k:IntKind}{p c:Int}(ho:o.op= .unOp .neg T x)(hx:ev E x=some (.val (.int k p)))(hc:k.wrap (0-p)=c):OpW P N o E H (Is (.val (.int k c))):= .of_run fun R a W h1 h2 ha=>
 ⟨.int k c,by simp only[Int.zero_sub]at hc;simp[execOp,ho,(ha.ev hx).val_inv,Op.unary,Op.intArith,hc],.val _⟩
theorem O.conv {S T:Nat}{ds:TypeDesc}{x:Operand}{k k':IntKind}{p c:Int}[TyD P S ds][TyD P T (.int k')](ho:o.op= .convert S T x)(hx:ev E x=some (.val (.int k p)))(hc:k'.wrap p=c):
  OpW P N o E H (Is (.val (.int k' c))):= .of_run fun R a W h1 h2 ha=>
 ⟨.int k' c,by simp[execOp,ho,(ha.ev hx).val_inv,convert,run_underlying (TyD.ax (P:=P) (T:=S)),run_underlying (TyD.ax (P:=P) (T:=T)),Conv.intToInt,hc],.val _⟩
theorem xZ {S T:Nat}{ds:TypeDesc}{x:Operand}{k k':IntKind}{p c:Int}[TyD P S ds][TyD P T (.int k')](ho:o.op= .convert S T x)(hx:ev E x=some (.val (.int k p)))(hc:k'.wrap p=c:=by exact e0J (by omega)):OpW P N o E H (Is (.val (.int k' c))):=O.conv ho hx hc
theorem vm {S T:Nat}{ds:TypeDesc}{x:Operand}{k k':IntKind}{p c:Int}[TyD P S ds][TyD P T (.int k')](ho:o.op= .convert S T x)(hx:ev E x=some (.val (.int k p)))(hc:k'.wrap p=c:=by exact q0g (by omega)):OpW P N o E H (Is (.val (.int k' c))):=O.conv ho hx hc
theorem O.extract {x:Operand}{i:Nat}{vs:List AV}{v:AV}(ho:o.op= .extract x i)(hx:ev E x=some (.tup vs))(hv:vs[i]? =some v):OpW P N o E H (Is v):= .of_run fun R a W h1 h2 ha=>by
 obtain⟨us,hu,hl⟩:=(ha.ev hx).tup_inv
 obtain⟨u,h3,h4⟩:=hl.get hv
 exact⟨u,by simp[execOp,ho,hu,Instr.extract,h3],h4⟩
theorem yj {x:Operand}{i:Nat}{vs:List AV}{v:AV}(ho:o.op= .extract x i:=by exact rfl)(hx:ev E x=some (.tup vs):=by exact rfl)(hv:vs[i]? =some v:=by exact rfl):OpW P N o E H (Is v):=O.extract ho hx hv
theorem O.nilCheck {x:Operand}{b:Addr}(ho:o.op= .nilCheck x)(hx:ev E x=some (.val (.pointer (some b)))):OpW P N o E H (Is (.val (.pointer (some b)))):= .of_run fun R a W h1 h2 ha=>
 ⟨.pointer (some b),by simp[execOp,ho,(ha.ev hx).val_inv],.val _⟩
theorem vM {x:Operand}{b:Addr}(ho:o.op= .nilCheck x:=by exact rfl)(hx:ev E x=some (.val (.pointer (some b))):=by exact rfl):OpW P N o E H (Is (.val (.pointer (some b)))):=O.nilCheck ho hx
theorem O.nilCheckR {x:Operand}{xs:List AV}{i:Nat}(ho:o.op= .nilCheck x)(hx:ev E x=some (.rp xs i)):OpW P N o E H (Is (.rp xs i)):= .of_run fun R a W h1 h2 ha=>by
 have:=ha.ev hx
 generalize hu:a.eval x=u at*
 cases this with
 |rp _ _ b off us hb hc hr=>exact⟨_,by simp only[execOp,ho,hu];rfl,.rp xs i b off us hb hc hr⟩
theorem O.lenR {x:Operand}{T:Nat}{full:Bool}{n:Nat}{xs:List AV}{d:TypeId}[TyD P T (.slice d)](ho:o.op= .call {callee:= .builtin .len,args:= #[x],argTypes:= #[T]})(hx:ev E x=some (.ro full n xs)):
  OpW P N o E H (Is (.val (.int .i64 n))):= .of_run fun R a W h1 h2 ha=>by
 have:=ha.ev hx
 generalize hu:a.eval x=u at*
 have ht:=run_underlying (TyD.ax (P:=P) (T:=T))
 cases this with
 |emp _ ad cap h3 h4=>exact⟨_,by simp[execOp,ho,hu,resolve,invoke,builtin,Builtin.len_,ht,goInt],.val _⟩
 |ro _ _ _ b off cap us hb hc hr h3 h4 h5=>exact⟨_,by simp[execOp,ho,hu,resolve,invoke,builtin,Builtin.len_,ht,goInt],.val _⟩
theorem x3 {x:Operand}{T:Nat}{full:Bool}{n:Nat}{xs:List AV}{d:TypeId}[TyD P T (.slice d)](ho:o.op= .call {callee:= .builtin .len,args:= #[x],argTypes:= #[T]})(hx:ev E x=some (.ro full n xs)):OpW P N o E H (Is (.val (.int .i64 n))):=O.lenR ho hx
theorem O.lenV {x:Operand}{T:Nat}{ad:Option Addr}{n c:Nat}{d:TypeId}[TyD P T (.slice d)](ho:o.op= .call {callee:= .builtin .len,args:= #[x],argTypes:= #[T]})(hx:ev E x=some (.val (.slice ad n c))):
  OpW P N o E H (Is (.val (.int .i64 n))):= .of_run fun R a W h1 h2 ha=>by
 have ht:=run_underlying (TyD.ax (P:=P) (T:=T))
 exact⟨_,by simp[execOp,ho,(ha.ev hx).val_inv,resolve,invoke,builtin,Builtin.len_,ht,goInt],.val _⟩
theorem O.lenS {x:Operand}{T:Nat}{s:ByteArray}[TyD P T .string](ho:o.op= .call {callee:= .builtin .len,args:= #[x],argTypes:= #[T]})(hx:ev E x=some (.val (.string s))):
  OpW P N o E H (Is (.val (.int .i64 s.size))):= .of_run fun R a W h1 h2 ha=>by
 have ht:=run_underlying (TyD.ax (P:=P) (T:=T))
 exact⟨_,by simp[execOp,ho,(ha.ev hx).val_inv,resolve,invoke,builtin,Builtin.len_,ht,goInt],.val _⟩
theorem O.lenRow {x:Operand}{T:Nat}{v:Value}{T' sz n:Nat}{xs:List AV}{d:TypeId}[TyD P T (.slice d)](ho:o.op= .call {callee:= .builtin .len,args:= #[x],argTypes:= #[T]})(hx:ev E x=some (.val v))(hm: .row v T' sz n xs∈H):
  OpW P N o E H (Is (.val (.int .i64 n))):= .of_run fun R a W h1 h2 ha=>by
 have ht:=run_underlying (TyD.ax (P:=P) (T:=T))
 obtain⟨us,hw, -⟩:=h2 _ hm
 rcases hw.2 with⟨hv,h0⟩|⟨g,cap,cur,hv, -⟩
 ·exact⟨_,by simp[execOp,ho,(ha.ev hx).val_inv,hv,h0,resolve,invoke,builtin,Builtin.len_,ht,goInt],.val _⟩
 ·exact⟨_,by simp[execOp,ho,(ha.ev hx).val_inv,hv,resolve,invoke,builtin,Builtin.len_,ht,goInt],.val _⟩
theorem vJ {x:Operand}{T:Nat}{v:Value}{T' sz n:Nat}{xs:List AV}{d:TypeId}[TyD P T (.slice d)](ho:o.op= .call {callee:= .builtin .len,args:= #[x],argTypes:= #[T]})(hx:ev E x=some (.val v))(hm: .row v T' sz n xs∈H:=by repeat(exact List.Mem.head _)):OpW P N o E H (Is (.val (.int .i64 n))):=O.lenRow ho hx hm
theorem a0N (b off n:Nat):(⟨b,off,none⟩:Addr).add n=⟨b,off+n,none⟩:=by
 unfold Addr.add;split<;>simp_all
theorem O.fieldAddr {T f:Nat}{x:Operand}{b off k:Nat}[hf:TyF P T f k](ho:o.op= .fieldAddr T x f)(hx:ev E x=some (.val (.pointer (some ⟨b,off,none⟩)))):OpW P N o E H (Is (.val (.pointer (some ⟨b,off+k,none⟩)))):= .of_run fun R a W h1 h2 ha=>by
 obtain⟨fs,fld,i,hu,hfl,hoff,hi,h0⟩:=hf.ax
 exact⟨_,by simp[execOp,ho,(ha.ev hx).val_inv,Instr.fieldAt,run_underlying hu,hfl,Instr.sureAddr,fieldPlace,sizeOf,typeInfo,hi,h0,hoff,a0N],.val _⟩
theorem zx {T f:Nat}{x:Operand}{b off k:Nat}(ho:o.op= .fieldAddr T x f:=by exact rfl)(hf:TyF P T f k:=by infer_instance)(hx:ev E x=some (.val (.pointer (some ⟨b,off,none⟩))):=by exact rfl):OpW P N o E H (Is (.val (.pointer (some ⟨b,off+k,none⟩)))):=O.fieldAddr ho hx
theorem O.fieldAddrR {T f:Nat}{x:Operand}{xs:List AV}{j k:Nat}[hf:TyF P T f k](ho:o.op= .fieldAddr T x f)(hx:ev E x=some (.rp xs j)):OpW P N o E H (Is (.rp xs (j+k))):= .of_run fun R a W h1 h2 ha=>by
 obtain⟨fs,fld,i,hu,hfl,hoff,hi,h0⟩:=hf.ax
 have:=ha.ev hx
 generalize hv:a.eval x=v at*
 cases this with
 |rp _ _ b off us hb hc hr=>
  refine⟨_,?_,.rp xs (j+k) b off us hb hc hr⟩
  simp[execOp,ho,hv,Instr.fieldAt,run_underlying hu,hfl,Instr.sureAddr,fieldPlace,sizeOf,typeInfo,hi,h0,hoff,a0N,Nat.add_assoc]
theorem O.idxR {T:Nat}{x y:Operand}{full:Bool}{n:Nat}{xs:List AV}{k:IntKind}{z:Int}{U sz bs:Nat}{zz:Value}[hs:TyS P T U sz bs zz](ho:o.op= .indexAddr T x y)(hx:ev E x=some (.ro full n xs))(hy:ev E y=some (.val (.int k z)))(hz:0≤z∧z<n):
  OpW P N o E H (Is (.rp xs (z.toNat*sz))):= .of_run fun R a W h1 h2 ha=>by
 obtain⟨i,hi,hi2, -⟩:=hs.el
 have:=ha.ev hx
 generalize hv:a.eval x=v at*
 cases this with
 |emp _ ad cap h3 h4=>simp at hz;omega
 |ro _ _ _ b off cap us hb hc hr h3 h4 h5=>
  refine⟨_,?_,.rp xs (z.toNat*sz) b off us hb hc hr⟩
  have h9: ¬((n:Int)≤1∧False):=by simp
  simp[execOp,ho,hv,(ha.ev hy).val_inv,Instr.indexAt,asIntOf,run_underlying hs.ty,sizeOf,typeInfo,hi,hi2,hz,a0N]
theorem ya {T:Nat}{x y:Operand}{full:Bool}{n:Nat}{xs:List AV}{k:IntKind}{z:Int}{U sz bs:Nat}{zz:Value}(ho:o.op= .indexAddr T x y:=by exact rfl)(hs:TyS P T U sz bs zz:=by infer_instance)(hx:ev E x=some (.ro full n xs):=by exact rfl)(hy:ev E y=some (.val (.int k z)):=by exact rfl)(hz:0≤z∧z<n:=by exact⟨(by omega),(by omega)⟩):OpW P N o E H (Is (.rp xs (z.toNat*sz))):=O.idxR ho hx hy hz
theorem O.idxV {T:Nat}{x y:Operand}{n c:Nat}{b off:Nat}{k:IntKind}{z:Int}{U sz bs:Nat}{zz:Value}[hs:TyS P T U sz bs zz](ho:o.op= .indexAddr T x y)(hx:ev E x=some (.val (.slice (some ⟨b,off,none⟩) n c)))(hy:ev E y=some (.val (.int k z)))(hz:0≤z∧z<n):
  OpW P N o E H (Is (.val (.pointer (some ⟨b,off+z.toNat*sz,none⟩)))):= .of_run fun R a W h1 h2 ha=>by
 obtain⟨i,hi,hi2, -⟩:=hs.el
 refine⟨_,?_,.val _⟩
 simp[execOp,ho,(ha.ev hx).val_inv,(ha.ev hy).val_inv,Instr.indexAt,asIntOf,run_underlying hs.ty,sizeOf,typeInfo,hi,hi2,hz,a0N]
theorem wk {T:Nat}{x y:Operand}{n c b off:Nat}{k:IntKind}{z:Int}{U sz bs:Nat}{zz:Value}(ho:o.op= .indexAddr T x y:=by exact rfl)(hs:TyS P T U sz bs zz:=by infer_instance)(hx:ev E x=some (.val (.slice (some ⟨b,off,none⟩) n c)):=by exact rfl)(hy:ev E y=some (.val (.int k z)):=by exact rfl)(hz:0≤z∧z<n:=by exact⟨(by omega),(by omega)⟩):OpW P N o E H (Is (.val (.pointer (some ⟨b,off+z.toNat*sz,none⟩)))):=O.idxV ho hx hy hz
theorem O.idxL {T:Nat}{x y:Operand}{b off:Nat}{k:IntKind}{z:Int}{n sz:Nat}[hs:TyL P T n sz](ho:o.op= .indexAddr T x y)(hx:ev E x=some (.val (.pointer (some ⟨b,off,none⟩))))(hy:ev E y=some (.val (.int k z)))(hz:0≤z∧z<n):
  OpW P N o E H (Is (.val (.pointer (some ⟨b,off+z.toNat*sz,none⟩)))):= .of_run fun R a W h1 h2 ha=>by
 obtain⟨U,i,hu,hi,hi2⟩:=hs.ax
 refine⟨_,?_,.val _⟩
 simp[execOp,ho,(ha.ev hx).val_inv,(ha.ev hy).val_inv,Instr.indexAt,asIntOf,run_underlying hu,sizeOf,typeInfo,hi,hi2,hz,a0N,Instr.sureAddr]
theorem xa {T:Nat}{x y:Operand}{b off:Nat}{k:IntKind}{z:Int}{n sz:Nat}(ho:o.op= .indexAddr T x y:=by exact rfl)(hs:TyL P T n sz:=by infer_instance)(hx:ev E x=some (.val (.pointer (some ⟨b,off,none⟩))):=by exact rfl)(hy:ev E y=some (.val (.int k z)):=by exact rfl)(hz:0≤z∧z<n:=by exact⟨(by omega),(by omega)⟩):OpW P N o E H (Is (.val (.pointer (some ⟨b,off+z.toNat*sz,none⟩)))):=O.idxL ho hx hy hz
theorem xf {T:Nat}{x y:Operand}{b off:Nat}{k:IntKind}{z:Int}{n sz:Nat}(ho:o.op= .indexAddr T x y:=by exact rfl)(hs:TyL P T n sz:=by infer_instance)(hx:ev E x=some (.val (.pointer (some ⟨b,off,none⟩))):=by exact rfl)(hy:ev E y=some (.val (.int k z)):=by exact rfl)(hz:0≤z∧z<n:=by exact⟨by omega,by omega⟩):OpW P N o E H (Is (.val (.pointer (some ⟨b,off+z.toNat*sz,none⟩)))):=O.idxL ho hx hy hz
theorem O.idxLR {T:Nat}{x y:Operand}{xs:List AV}{j:Nat}{k:IntKind}{z:Int}{n sz:Nat}[hs:TyL P T n sz](ho:o.op= .indexAddr T x y)(hx:ev E x=some (.rp xs j))(hy:ev E y=some (.val (.int k z)))(hz:0≤z∧z<n):
  OpW P N o E H (Is (.rp xs (j+z.toNat*sz))):= .of_run fun R a W h1 h2 ha=>by
 obtain⟨U,i,hu,hi,hi2⟩:=hs.ax
 have:=ha.ev hx
 generalize hv:a.eval x=v at*
 cases this with
 |rp _ _ b off us hb hc hr=>
  refine⟨_,?_,.rp xs _ b off us hb hc hr⟩
  simp[execOp,ho,hv,(ha.ev hy).val_inv,Instr.indexAt,asIntOf,run_underlying hu,sizeOf,typeInfo,hi,hi2,hz,a0N,Instr.sureAddr,Nat.add_assoc]
theorem f0p {T k:Nat}(h:TyG P T false k)(W:World)(ad:Addr)(u:Value)(hu:W.cell? ad=some u):(loadVar T ad).run P W= .ok u W:=by
 obtain⟨d,i,hd,hi,hk,hg⟩:=h.ax
 have:(isAgg T).run P W= .ok false W:=by
  unfold isAgg
  rw[Sem.run_bind,run_underlying hd W]
  cases d<;>simp_all
 simp[loadVar,this,hu]
theorem b0O {T k:Nat}(h:TyG P T true k)(W:World)(b off:Nat)(us:List Value)(hl:us.length=k)(hu: ∀j u,us[j]? =some u→W.cell? ⟨b,off+j,none⟩=some u):(loadVar T ⟨b,off,none⟩).run P W= .ok (.agg us.toArray) W:=by
 obtain⟨d,i,hd,hi,hk,hg⟩:=h.ax
 have:(isAgg T).run P W= .ok true W:=by
  unfold isAgg
  rw[Sem.run_bind,run_underlying hd W]
  cases d<;>simp_all
 have hc:=run_loadCells_list (P:=P) W ⟨b,off,none⟩ us (fun j v hv=>by rw[a0N];exact hu j v hv)
 rw[hl]at hc
 simp[loadVar,this,sizeOf,typeInfo,hi,hk,hc]
theorem O.loadR {T:Nat}{x:Operand}{xs:List AV}{j k:Nat}{v:AV}[hg:TyG P T false k](ho:o.op= .load T x)(hx:ev E x=some (.rp xs j))(hv:xs[j]? =some v):OpW P N o E H (Is v):= .of_run fun R a W h1 h2 ha=>by
 obtain⟨hj,rfl⟩:=List.getElem?_eq_some_iff.1 hv
 have:=ha.ev hx
 generalize hu:a.eval x=u at*
 cases this with
 |rp _ _ b off us hb hc hr=>
  refine⟨us j,?_,hr j hj⟩
  simp[execOp,ho,hu,Instr.loadAt,Instr.sureAddr,f0p hg W _ _ (hc j hj)]
theorem vy {T:Nat}{x:Operand}{xs:List AV}{j k:Nat}{v:AV}(ho:o.op= .load T x:=by exact rfl)(hg:TyG P T false k:=by infer_instance)(hx:ev E x=some (.rp xs j):=by exact rfl)(hv:xs[j]? =some v:=by exact b0l (by assumption) (by omega)):OpW P N o E H (Is v):=O.loadR ho hx hv
theorem O.loadRK {T:Nat}{x:Operand}{xs:List AV}{j k:Nat}{ys:List AV}[hg:TyG P T true k](ho:o.op= .load T x)(hx:ev E x=some (.rp xs j))(hv:(xs.drop j).take k=ys)(hk:ys.length=k):OpW P N o E H (Is (.agg ys)):= .of_run fun R a W h1 h2 ha=>by
 have:=ha.ev hx
 generalize hu:a.eval x=u at*
 cases this with
 | rp _ _ b off us hb hc hr=>
  have hlen:j+k≤xs.length∨k=0:=by
   rw[←hv,List.length_take,List.length_drop]at hk;omega
  have hrl:RelL R W ys ((List.range k).map fun i=>us (j+i)):=⟨by simp[hk],fun i hi=>by
   have hi2:i<k:=by omega
   have e1:ys[i]=xs[j+i]'(by omega):=by
    subst hv;simp[List.getElem_take,List.getElem_drop]
   have e2:((List.range k).map fun i=>us (j+i)).getD i undef=us (j+i):=by simp[List.getD,hi2]
   rw[e1,e2];exact hr (j+i) (by omega)⟩
  refine⟨_,?_,hrl.toAgg⟩
  have hl:=b0O hg W b (off+j) ((List.range k).map fun i=>us (j+i)) (by simp) (fun i u hi=>by
   obtain⟨h1,rfl⟩:=List.getElem?_eq_some_iff.1 hi
   simp at h1
   simp only[List.getElem_map,List.getElem_range]
   rw[Nat.add_assoc]
   exact hc (j+i) (by omega))
  simp only[execOp,ho,hu,Instr.loadAt,Instr.sureAddr,Sem.run_bind,Sem.run_pure,Result.andThen_ok,hl]
theorem xq {T:Nat}{x:Operand}{xs:List AV}{j k:Nat}{ys:List AV}(ho:o.op= .load T x:=by exact rfl)(hg:TyG P T true k:=by infer_instance)(hx:ev E x=some (.rp xs j):=by exact rfl)(hv:(xs.drop j).take k=ys:=by exact x0q (by omega) (by omega))(hk:ys.length=k:=by rfl):OpW P N o E H (Is (.agg ys)):=O.loadRK ho hx hv hk
theorem e0F {R:Nat→Prop}{W:World}{b T room:Nat}{xs:List AV}(h:HE.ok R W (.blk b T room xs)){j:Nat}{v:AV}(hv:xs[j]? =some v): ∃u,W.cell? ⟨b,j,none⟩=some u∧RelV R W v u:=by
 obtain⟨us,cs,hb,hs,ht,hr⟩:=h
 obtain⟨u,h1,h2⟩:=hr.get hv
 refine⟨u,?_,h2⟩
 rw[cell_of_row W b j cs T (0,0) hb]
 rw[←ht,List.getElem?_take]at h1
 split at h1
 ·simpa using h1
 ·cases h1
theorem O.load {T:Nat}{x:Operand}{b j k:Nat}{v:AV}{T' room:Nat}{xs:List AV}[hg:TyG P T false k](ho:o.op= .load T x)(hx:ev E x=some (.val (.pointer (some ⟨b,j,none⟩))))(hm:HE.blk b T' room xs∈H)(hv:xs[j]? =some v):OpW P N o E H (Is v):= .of_run fun R a W h1 h2 ha=>by
 obtain⟨u,h3,h4⟩:=e0F (h2 _ hm) hv
 exact⟨u,by simp[execOp,ho,(ha.ev hx).val_inv,Instr.loadAt,Instr.sureAddr,f0p hg W _ _ h3],h4⟩
theorem zf {T:Nat}{x:Operand}{b j k:Nat}{v:AV}{T' room:Nat}{xs:List AV}(ho:o.op= .load T x:=by exact rfl)(hg:TyG P T false k:=by infer_instance)(hx:ev E x=some (.val (.pointer (some ⟨b,j,none⟩))):=by exact rfl)(hm:HE.blk b T' room xs∈H:=by repeat(first|exact List.Mem.head _|refine List.Mem.tail _ ?_))(hv:xs[j]? =some v:=by rfl):OpW P N o E H (Is v):=O.load ho hx hm hv
theorem zh {T:Nat}{x:Operand}{b j k:Nat}{v:AV}{T' room:Nat}{xs:List AV}(ho:o.op= .load T x:=by exact rfl)(hg:TyG P T false k:=by infer_instance)(hx:ev E x=some (.val (.pointer (some ⟨b,j,none⟩))):=by exact rfl)(hm:HE.blk b T' room xs∈H:=by repeat(exact List.Mem.head _))(hv:xs[j]? =some v:=by rfl):OpW P N o E H (Is v):=O.load ho hx hm hv
theorem wN {T:Nat}{x:Operand}{b j k:Nat}{v:AV}{T' room:Nat}{xs:List AV}(ho:o.op= .load T x:=by exact rfl)(hg:TyG P T false k:=by infer_instance)(hx:ev E x=some (.val (.pointer (some ⟨b,j,none⟩))):=by exact rfl)(hm:HE.blk b T' room xs∈H:=by repeat(first|exact List.Mem.head _|refine List.Mem.tail _ ?_))(hv:xs[j]? =some v:=by exact f0i u0j _):OpW P N o E H (Is v):=O.load ho hx hm hv
theorem O.loadK {T:Nat}{x:Operand}{b j k:Nat}{ys:List AV}{T' room:Nat}{xs:List AV}[hg:TyG P T true k](ho:o.op= .load T x)(hx:ev E x=some (.val (.pointer (some ⟨b,j,none⟩))))(hm:HE.blk b T' room xs∈H)(hv:(xs.drop j).take k=ys)(hk:ys.length=k):OpW P N o E H (Is (.agg ys)):= .of_run fun R a W h1 h2 ha=>by
 obtain⟨us,cs,hb,hs,ht,hr⟩:=h2 _ hm
 have hrl:=(hr.drop j).take k
 rw[hv]at hrl
 refine⟨_,?_,hrl.toAgg⟩
 have hl:=b0O hg W b j ((us.drop j).take k) (by rw[hrl.1,hk]) (fun i u hi=>by
  rw[cell_of_row W b (j+i) cs T' (0,0) hb]
  rw[List.getElem?_take]at hi
  split at hi
  ·rw[List.getElem?_drop,←ht,List.getElem?_take]at hi
   split at hi
   ·simpa using hi
   ·cases hi
  ·cases hi)
 simp only[execOp,ho,(ha.ev hx).val_inv,Instr.loadAt,Instr.sureAddr,Sem.run_bind,Sem.run_pure,Result.andThen_ok,hl]
theorem zk {T:Nat}{x:Operand}{b j k:Nat}{ys:List AV}{T' room:Nat}{xs:List AV}(ho:o.op= .load T x:=by exact rfl)(hg:TyG P T true k:=by infer_instance)(hx:ev E x=some (.val (.pointer (some ⟨b,j,none⟩))):=by exact rfl)(hm:HE.blk b T' room xs∈H:=by repeat(first|exact List.Mem.head _|refine List.Mem.tail _ ?_))(hv:(xs.drop j).take k=ys:=by(dsimp only[List.set,cA,cN,List.take,List.drop];done))(hk:ys.length=k:=by rfl):OpW P N o E H (Is (.agg ys)):=O.loadK ho hx hm hv hk
theorem zt {T:Nat}{x:Operand}{b j k:Nat}{ys:List AV}{T' room:Nat}{xs:List AV}(ho:o.op= .load T x:=by exact rfl)(hg:TyG P T true k:=by infer_instance)(hx:ev E x=some (.val (.pointer (some ⟨b,j,none⟩))):=by exact rfl)(hm:HE.blk b T' room xs∈H:=by repeat(exact List.Mem.head _))(hv:(xs.drop j).take k=ys:=by(dsimp only[List.set,cA,cN,List.take,List.drop];done))(hk:ys.length=k:=by rfl):OpW P N o E H (Is (.agg ys)):=O.loadK ho hx hm hv hk
theorem yp {T:Nat}{x:Operand}{b j k:Nat}{ys:List AV}{T' room:Nat}{xs:List AV}(ho:o.op= .load T x:=by exact rfl)(hg:TyG P T true k:=by infer_instance)(hx:ev E x=some (.val (.pointer (some ⟨b,j,none⟩))):=by exact rfl)(hm:HE.blk b T' room xs∈H:=by repeat(exact List.Mem.head _))(hv:(xs.drop j).take k=ys:=by(dsimp only[List.set,List.append,cA,cN,a0w,a0v,a0y,a0e,a0A,AV.cells,List.map,List.map_cons,List.map_nil,List.take,List.drop,Nat.zero_add,Nat.add_zero,Nat.reduceAdd,Nat.reduceMul,Nat.zero_mul,Value.cells,List.toList_toArray,a0x,List.replicate,List.flatten,cP];done))(hk:ys.length=k:=by rfl):OpW P N o E H (Is (.agg ys)):=O.loadK ho hx hm hv hk
theorem xl {T:Nat}{x:Operand}{b j k:Nat}{ys:List AV}{T' room:Nat}{xs:List AV}(ho:o.op= .load T x:=by exact rfl)(hg:TyG P T true k:=by infer_instance)(hx:ev E x=some (.val (.pointer (some ⟨b,j,none⟩))):=by exact rfl)(hm:HE.blk b T' room xs∈H:=by repeat(exact List.Mem.head _))(hv:(xs.drop j).take k=ys:=by exact List.take_of_length_le (Nat.le_of_eq (a0b _ _)))(hk:ys.length=k:=by exact a0b _ _):OpW P N o E H (Is (.agg ys)):=O.loadK ho hx hm hv hk
theorem vj {T:Nat}{x:Operand}{b j k:Nat}{ys:List AV}{T' room:Nat}{xs:List AV}(ho:o.op= .load T x:=by exact rfl)(hg:TyG P T true k:=by infer_instance)(hx:ev E x=some (.val (.pointer (some ⟨b,j,none⟩))):=by exact rfl)(hm:HE.blk b T' room xs∈H:=by repeat(first|exact List.Mem.head _|refine List.Mem.tail _ ?_))(hv:(xs.drop j).take k=ys:=by rfl)(hk:ys.length=k:=by rfl):OpW P N o E H (Is (.agg ys)):=O.loadK ho hx hm hv hk
theorem vx {T:Nat}{x:Operand}{b j k:Nat}{ys:List AV}{T' room:Nat}{xs:List AV}(ho:o.op= .load T x:=by exact rfl)(hg:TyG P T true k:=by infer_instance)(hx:ev E x=some (.val (.pointer (some ⟨b,j,none⟩))):=by exact rfl)(hm:HE.blk b T' room xs∈H:=by repeat(first|exact List.Mem.head _|refine List.Mem.tail _ ?_))(hv:(xs.drop j).take k=ys:=by(dsimp only[List.set,List.append,cA,cN,a0w,a0v,a0y,a0e,a0A,AV.cells,List.map,List.map_cons,List.map_nil,List.take,List.drop,Nat.zero_add,Nat.add_zero,Nat.reduceAdd,Nat.reduceMul,Nat.zero_mul,Value.cells,List.toList_toArray,a0x,List.replicate,List.flatten,cP];done))(hk:ys.length=k:=by rfl):OpW P N o E H (Is (.agg ys)):=O.loadK ho hx hm hv hk
theorem vK {T:Nat}{x:Operand}{b j k:Nat}{ys:List AV}{T' room:Nat}{xs:List AV}(ho:o.op= .load T x:=by exact rfl)(hg:TyG P T true k:=by infer_instance)(hx:ev E x=some (.val (.pointer (some ⟨b,j,none⟩))):=by exact rfl)(hm:HE.blk b T' room xs∈H:=by repeat(exact List.Mem.head _))(hv:(xs.drop j).take k=ys:=by(dsimp only[List.set,List.append,cA,cN,AV.cells,a0e,List.take,List.drop,Nat.reduceAdd];done))(hk:ys.length=k:=by rfl):OpW P N o E H (Is (.agg ys)):=O.loadK ho hx hm hv hk
theorem O.fn {f:Fn}{cap:List Operand}{vs:List AV}(ho:o.op= .makeFunc f #[] cap.toArray)(hx:evs E cap=some vs):OpW P N o E H (Is (.fn f vs)):= .of_run fun R a W h1 h2 ha=>
 ⟨_,by simp[execOp,ho,Instr.makeFunc],(ha.evs hx).toFn⟩
end
theorem d0p (R:Nat→Prop)(W:World)(us:List Value):RelL R W (us.map .val) us:=⟨by simp,fun j hj=>by
 have hj':j<us.length:=by simpa using hj
 have:us.getD j undef=us[j]:=by simp[List.getD,hj']
 rw[List.getElem_map,this];exact .val _⟩
theorem RelL.all_one {R:Nat→Prop}{W:World}{xs:List AV}{us:List Value}(h:RelL R W xs us)(h1:xs.all AV.one=true): ∀u∈us,u.oneCell'=true:=by
 intro u hu
 obtain⟨j,hj,rfl⟩:=List.getElem_of_mem hu
 have hj':j<xs.length:=by rw[←h.1];exact hj
 have:=h.2 j hj'
 rw[show us.getD j undef=us[j] by simp[List.getD,hj]]at this
 exact this.one (List.all_eq_true.1 h1 _ (List.getElem_mem hj'))
theorem e0r {R:Nat→Prop}{W:World}(hR: ∀b,R b→b<W.heap.size)(T:TypeId)(cs:Array Value)(room:Nat)(xs:List AV)(hr:cs.size=room)(hx:RelL R W xs (cs.toList.take xs.length)){v:AV}{u:Value}
  (hv: ∀R W,RelV R W v u):Post1 R W v [.blk W.heap.size T room xs] u (W.alloc (.cells cs T)) R:=by
 have hs: ∀b,R b→(W.alloc (.cells cs T)).heap[b]? =W.heap[b]? :=fun b hb=>Below.heap_alloc W _ b (hR b hb)
 refine⟨Mods.alloc (Mods.refl _ _) _,fun _ h=>h,fun _ h=> .inl h,hv _ _,?_,by simp⟩
 intro e he
 obtain rfl:e=_:=by simpa using he
 refine⟨⟨_,cs,heap_alloc_new W _,hr,rfl,hx.mono (fun _ h=>h) hs⟩,fun b hb=> ?_⟩
 cases hb
 exact⟨Nat.le_refl _,fun h=>by have:=hR _ h;omega⟩
section
variable {Γ:Cx}{P:Program}{Q:Exit→Act→World→Prop}{E:Env}{H:List HE}{N:Nat}{o:Oper}{ops:Array Oper}{rest:List Oper}
def b0j (v:Nat→AV)(T room:Nat)(xs:List AV):AV→List HE→Prop:=fun v' Hn=> ∃b,v'=v b∧Hn= [.blk b T room xs]
theorem O.alloc {T k bs:Nat}{z:Value}{xs:List AV}[hn:TyN P T k bs z](ho:o.op= .alloc T)(hx:z.cells.toList.map AV.val=xs)(hk:z.cells.size=k):
  OpW P N o E H (b0j (fun b=> .val (.pointer (some ⟨b,0,none⟩))) T k xs):=fun R a W h1 h2 h3 ha=>by
 obtain⟨i,hi,hik,hib,hiz⟩:=hn.ax
 have hr:(execOp a.eval o).run P W= .ok (.value (.pointer (some ⟨W.heap.size,0,none⟩))) (W.alloc (.cells z.cells T)):=by
  simp[execOp,ho,Instr.alloc,zeroValue,typeInfo,hi,hiz,newVar,newRow]
 unfold Oper.wp
 rw[hr]
 refine⟨_,_,_,R,rfl,⟨W.heap.size,rfl,rfl⟩,e0r h1 T z.cells k xs hk ?_ (fun _ _=> .val _)⟩
 subst hx
 rw[List.length_map,List.take_length]
 exact d0p R W _
theorem ze {T k bs:Nat}{z:Value}{xs:List AV}(ho:o.op= .alloc T:=by exact rfl)(hn:TyN P T k bs z:=by infer_instance)(hx:z.cells.toList.map AV.val=xs:=by(dsimp only[a0x,List.replicate,List.append,List.flatten,AV.cells,Value.cells,List.toList_toArray,List.map];done))(hk:z.cells.size=k:=by rfl):OpW P N o E H (b0j (fun b=> .val (.pointer (some ⟨b,0,none⟩))) T k xs):=O.alloc ho hx hk
theorem z9 {T k bs:Nat}{z:Value}{xs:List AV}(ho:o.op= .alloc T:=by exact rfl)(hn:TyN P T k bs z:=by infer_instance)(hx:z.cells.toList.map AV.val=xs:=by(dsimp only[List.set,List.append,cA,cN,a0w,a0v,a0y,a0e,a0A,AV.cells,List.map,List.map_cons,List.map_nil,List.take,List.drop,Nat.zero_add,Nat.add_zero,Nat.reduceAdd,Nat.reduceMul,Nat.zero_mul,Value.cells,List.toList_toArray,a0x,List.replicate,List.flatten,cP];done))(hk:z.cells.size=k:=by rfl):OpW P N o E H (b0j (fun b=> .val (.pointer (some ⟨b,0,none⟩))) T k xs):=O.alloc ho hx hk
theorem wR {T k bs:Nat}{z:Value}{xs:List AV}(ho:o.op= .alloc T:=by exact rfl)(hn:TyN P T k bs z:=by infer_instance)(hx:z.cells.toList.map AV.val=xs:=by exact f0O _)(hk:z.cells.size=k:=by exact List.length_replicate):OpW P N o E H (b0j (fun b=> .val (.pointer (some ⟨b,0,none⟩))) T k xs):=O.alloc ho hx hk
theorem O.box {T k:Nat}{x:Operand}{v:AV}{xs:List AV}(ho:o.op= .box T x)(hx:ev E x=some v)(hv:v.cells=xs)(hk:xs.length=k)(h1:(match v with| .val u=>u.oneCell'| .opt _ _=>false|_=>true)=true):
  OpW P N o E H (b0j (fun b=> .val (.pointer (some ⟨b,0,none⟩))) T k xs):=fun R a W h0 h2 h3 ha=>by
 have hc:=(ha.ev hx).cells (fun u hu=>by subst hu;exact h1) (fun c y hu=>by subst hu;cases h1)
 rw[hv]at hc
 have hr:(execOp a.eval o).run P W= .ok (.value (.pointer (some ⟨W.heap.size,0,none⟩))) (W.alloc (.cells (a.eval x).cells T)):=by
  simp[execOp,ho,Instr.box,newVar,newRow]
 unfold Oper.wp
 rw[hr]
 have hl:=hc.1
 rw[Array.length_toList]at hl
 refine⟨_,_,_,R,rfl,⟨W.heap.size,rfl,rfl⟩,e0r h0 T _ k xs (by omega) ?_ (fun _ _=> .val _)⟩
 rw[List.take_of_length_le (by rw[Array.length_toList];omega)]
 exact hc
theorem xd {T k:Nat}{x:Operand}{v:AV}{xs:List AV}(ho:o.op= .box T x:=by exact rfl)(hx:ev E x=some v:=by exact rfl)(hv:v.cells=xs:=by exact rfl)(hk:xs.length=k:=by exact rfl)(h1:(match v with| .val u=>u.oneCell'| .opt _ _=>false|_=>true)=true:=by exact rfl):OpW P N o E H (b0j (fun b=> .val (.pointer (some ⟨b,0,none⟩))) T k xs):=O.box ho hx hv hk h1
def a0e (xs:List AV)(off:Nat):List AV→List AV
 | []=>xs
 |c::r=>a0e (xs.set off c) (off+1) r
def d0T (place:Nat→Option (Nat×Nat))(xs:List AV):List (Nat×AV)→Option (List AV)
 | []=>some xs
 |(i,v)::r=>match place i with
  |none=>none
  |some (off,size)=>bif Nat.beq v.cells.length size&&Nat.ble (off+v.cells.length) xs.length then d0T place (a0e xs off v.cells) r else none
theorem h0d {R:Nat→Prop}{W:World}: ∀(cs:List AV) (us:List Value) (xs:List AV) (ws:Array Value) (off k:Nat),RelL R W cs us→RelL R W xs ws.toList→
  RelL R W (a0e xs (off+k) cs) ((us.zipIdx k).foldl (fun cs (c,j)=>cs.setIfInBounds (off+j) c) ws).toList
 | [],us,xs,ws,off,k,h1,h2=>by
  have:us= []:=List.eq_nil_of_length_eq_zero (by simpa using h1.1)
  subst this
  exact h2
 | c::r,us,xs,ws,off,k,h1,h2=>by
  obtain⟨u,ur,rfl,h3,h4⟩:=h1.uncons
  exact h0d r ur (xs.set (off+k) c) (ws.setIfInBounds (off+k) u) off (k+1) h4 (by
   rw[Array.toList_setIfInBounds];exact h2.set _ h3)
theorem i0q {R:Nat→Prop}{W:World}{place place':Nat→Option (Nat×Nat)}(hp: ∀i q,place i=some q→place' i=some q): ∀(ps:List (Nat×AV)) (vs:List (Nat×Value)) (xs ys:List AV) (ws:Array Value),
  ps.map (·.1)=vs.map (·.1)→RelL R W (ps.map (·.2)) (vs.map (·.2))→(∀p∈ps,(∀u,p.2= .val u→u.oneCell'=true)∧ ∀c y,p.2≠ .opt c y)→RelL R W xs ws.toList→d0T place xs ps=some ys→
  ∃zs:Array Value,Instr.fill place' ws vs=some zs∧RelL R W ys zs.toList
 | [],vs,xs,ys,ws,h1,h2,h3,h4,h5=>by
  have:vs= []:=by cases vs<;>simp_all
  subst this
  cases h5
  exact⟨ws,rfl,h4⟩
 | (i,v)::r,vs,xs,ys,ws,h1,h2,h3,h4,h5=>by
  obtain⟨u,ur,he,h6,h7⟩:=h2.uncons
  cases vs with
  |nil=>simp at h1
  | cons p vr=>
   obtain⟨i',u'⟩:=p
   simp only[List.map_cons,List.cons.injEq]at h1 he
   obtain⟨rfl,h1⟩:=h1
   obtain⟨rfl,rfl⟩:=he
   unfold d0T at h5
   split at h5
   ·cases h5
   ·rename_i off size hpl
    have hc:=h6.cells (h3 _ (List.mem_cons_self ..)).1 (h3 _ (List.mem_cons_self ..)).2
    have hl:v.cells.length=u'.cells.size:=by have:=hc.1;rw[Array.length_toList]at this;exact this.symm
    cases hcond:(Nat.beq v.cells.length size&&Nat.ble (off+v.cells.length) xs.length)with
    |false=>rw[hcond]at h5;cases h5
    |true=>
     rw[hcond]at h5
     simp only[Bool.and_eq_true]at hcond
     have h8:=Nat.eq_of_beq_eq_true hcond.1
     have h9:=lB hcond.2
     have hwl:ws.size=xs.length:=by have:=h4.1;rw[Array.length_toList]at this;exact this
     have hsp:=h0d v.cells u'.cells.toList xs ws off 0 hc h4
     obtain⟨zs,h10,h11⟩:=i0q hp r vr _ ys _ h1 h7 (fun p hp=>h3 p (List.mem_cons_of_mem _ hp)) hsp h5
     refine⟨zs,?_,h11⟩
     unfold Instr.fill
     rw[hp _ _ hpl]
     simp only
     rw[if_neg (by simp;omega)]
     rw[←Array.foldl_toList,Array.toList_zipIdx]
     exact h10
class TyB (P:Program) (T:Nat) (ps:outParam (List (Nat×Nat))) (z:outParam Value):Prop where
 ax: ∃i,P.info? T=some i∧i.zero=some z∧((∃fs,P.underlying T=some (.struct fs)∧fs.toList.mapM (fun f=>(P.info? f.type).map fun i=>(f.offset,i.size))=some ps)∨
  (∃n U ie,P.underlying T=some (.array n U)∧P.info? U=some ie∧ps=(List.range n).map fun i=>(i*ie.size,ie.size)))
def f0W:List (Nat×AV)→Bool
 | []=>true
 |(_,.val u)::r=>u.oneCell'&&f0W r
 |(_,.opt _ _)::_=>false
 |_::r=>f0W r
theorem e0K: ∀{ps:List (Nat×AV)},f0W ps=true→ ∀p∈ps,(∀u,p.2= .val u→u.oneCell'=true)∧ ∀c y,p.2≠ .opt c y
 | [],_,p,hp=>by cases hp
 | (i,v)::r,h,p,hp=>by
  rcases List.mem_cons.1 hp with rfl|hp
  ·refine⟨fun u hu=> ?_,fun c y hu=> ?_⟩
   ·simp only at hu
    subst hu
    simp only[f0W,Bool.and_eq_true]at h
    exact h.1
   ·simp only at hu
    subst hu
    cases h
  ·refine e0K (ps:=r) ?_ p hp
   cases v<;>simp_all[f0W]
def evp (E:Env):List (Nat×Operand)→Option (List (Nat×AV))
 | []=>some []
 |(i,x)::r=>match ev E x,evp E r with|some v,some vs=>some ((i,v)::vs)|_,_=>none
theorem RelA.evp {R:Nat→Prop}{W:World}{a:Act}(h:RelA N R W E a): ∀{xs:List (Nat×Operand)} {vs:List (Nat×AV)},A.evp E xs=some vs→
  vs.map (·.1)=(xs.map fun(i,x)=>(i,a.eval x)).map (·.1)∧RelL R W (vs.map (·.2)) ((xs.map fun(i,x)=>(i,a.eval x)).map (·.2))
 | [],vs,hx=>by cases hx;exact⟨rfl,RelL.nil⟩
 | (i,x)::r,vs,hx=>by
  unfold A.evp at hx
  split at hx
  ·rename_i v vs' h1 h2
   cases hx
   obtain⟨h3,h4⟩:=RelA.evp h h2
   exact⟨by simp[h3],RelL.cons (h.ev h1) h4⟩
  ·cases hx
theorem O.build {T:Nat}{pl:List (Nat×Nat)}{z:Value}{parts:List (Nat×Operand)}{ps:List (Nat×AV)}{ys:List AV}[hb:TyB P T pl z](ho:o.op= .build T parts.toArray)(hx:evp E parts=some ps)(h1:f0W ps=true)
  (hy:d0T (pl[·]?) (z.cells.toList.map .val) ps=some ys):OpW P N o E H (Is (.agg ys)):= .of_run fun R a W h0 h2 ha=>by
 obtain⟨i,hi,hz,hu⟩:=hb.ax
 obtain⟨h3,h4⟩:=ha.evp hx
 have key: ∀place',(∀i q,pl[i]? =some q→place' i=some q)→ ∃zs:Array Value,Instr.fill place' z.cells (parts.map fun(i,x)=>(i,a.eval x))=some zs∧RelL R W ys zs.toList:=fun place' hp=>
  i0q (W:=W) (R:=R) (place:=(pl[·]?)) (place':=place') hp ps _ _ ys z.cells h3 h4 (e0K h1) (d0p R W _) hy
 have hfin: ∀zs:Array Value,P.built T (parts.map fun(i,x)=>(i,a.eval x))=some zs→RelL R W ys zs.toList→ ∃u,(execOp a.eval o).run P W= .ok (.value u) W∧RelV R W (.agg ys) u:=fun zs h5 h6=>by
  refine⟨.agg zs,?_,by simpa using h6.toAgg⟩
  simp only[execOp,ho]
  rw[Sem.run_bind,run_build W T _ zs (by simpa using h5)]
  rfl
 rcases hu with⟨fs,hu,hm⟩|⟨n,U,ie,hu,hie,hpl⟩
 ·obtain⟨zs,h5,h6⟩:=key (pl.toArray[·]?) (fun i q h=>by simpa using h)
  exact hfin zs (by unfold Program.built;simp[hi,hu,hz,hm];simpa using h5) h6
 ·obtain⟨zs,h5,h6⟩:=key (fun i=>some (i*ie.size,ie.size)) (fun i q h=>by
   subst hpl
   obtain⟨h7,rfl⟩:=List.getElem?_eq_some_iff.1 h
   simp)
  exact hfin zs (by unfold Program.built;simp[hi,hu,hz,hie];exact h5) h6
theorem zZ {T:Nat}{pl:List (Nat×Nat)}{z:Value}{parts:List (Nat×Operand)}{ps:List (Nat×AV)}{ys:List AV}(ho:o.op= .build T parts.toArray:=by exact rfl)(hb:TyB P T pl z:=by infer_instance)(hx:evp E parts=some ps:=by exact rfl)(h1:f0W ps=true:=by exact rfl)(hy:d0T (pl[·]?) (z.cells.toList.map .val) ps=some ys:=by rfl):OpW P N o E H (Is (.agg ys)):=O.build ho hx h1 hy
def a0x (n:Nat)(z:Value):List AV:=(List.replicate n (z.cells.toList.map AV.val)).flatten
theorem f0N (z:Value)(k:Nat)(hz:z.cells.size=k): ∀n,((Array.range (n*k)).map (z.cells[· %z.cells.size]!)).toList=(List.replicate n z.cells.toList).flatten:=by
 intro n
 apply List.ext_getElem?
 intro i
 have key: ∀(n i:Nat),(List.replicate n z.cells.toList).flatten[i]? =if i<n*k then some (z.cells[i%k]!)else none:=by
  intro n
  induction n with
  |zero=>intro i;simp
  | succ n ih=>
   intro i
   rw[List.replicate_succ,List.flatten_cons,List.getElem?_append]
   by_cases h:i<k
   ·have h1:i<z.cells.size:=by omega
    have h2:i<(n+1)*k:=by rw[Nat.add_mul];omega
    simp[h1,h2,Nat.mod_eq_of_lt h]
   ·have h1: ¬i<z.cells.toList.length:=by simp;omega
    rw[if_neg h1,ih]
    have e:(i-k)%k=i%k:=by rw[←Nat.mod_eq_sub_mod (by omega)]
    simp only[Array.length_toList,hz,e]
    have h3:(i-k<n*k)↔(i<(n+1)*k):=by rw[Nat.add_mul];omega
    simp only[h3]
 rw[key,hz]
 by_cases h:i<n*k<;>simp[h]
theorem O.buildSlice {T U k bs n:Nat}{z:Value}{parts:List (Nat×Operand)}{ps:List (Nat×AV)}{ys:List AV}[hs:TyS P T U k bs z](ho:o.op= .buildSlice T n parts.toArray)(hx:evp E parts=some ps)(h1:f0W ps=true)
  (hsm:Nat.ble (n*k) 16777216=true) (hpos:Nat.ble 1 (n*k)=true)
  (hzk:Nat.beq z.cells.size k=true) (hy0:d0T (fun i=>some (i*k,k)) (a0x n z) ps=some ys):OpW P N o E H (b0j (fun b=> .val (.slice (some ⟨b,0,none⟩) n n)) U (n*k) ys):=fun R a W h0 h2 h3' ha=>by
 obtain⟨i,hi,hik,hib,hz⟩:=hs.el
 obtain⟨h3,h4⟩:=ha.evp hx
 have hy:d0T (fun i=>some (i*k,k)) (((Array.range (n*k)).map (z.cells[· %z.cells.size]!)).toList.map .val) ps=some ys:=by
  rw[f0N z k (Nat.eq_of_beq_eq_true hzk) n,List.map_flatten,List.map_replicate]
  exact hy0
 obtain⟨zs,h5,h6⟩:=i0q (W:=W) (R:=R) (place:=fun i=>some (i*k,k)) (place':=fun j=>some (j*i.size,i.size)) (fun j q h=>by rw[hik];exact h) ps _ _ ys ((Array.range (n*k)).map (z.cells[· %z.cells.size]!)) h3 h4 (e0K h1) (d0p R W _) hy
 have hsm:=lB hsm
 have hpos:=lB hpos
 have hlen: ∀(ps:List (Nat×AV)) (xs ys:List AV),d0T (fun i=>some (i*k,k)) xs ps=some ys→ys.length=xs.length:=by
  intro ps
  have hsp: ∀(cs xs:List AV) (off:Nat),(a0e xs off cs).length=xs.length:=by
   intro cs
   induction cs with
   |nil=>intro xs off;rfl
   |cons c r ih=>intro xs off;rw[a0e,ih];simp
  induction ps with
  |nil=>intro xs ys h;cases h;rfl
  |cons p r ih=>
   intro xs ys h
   unfold d0T at h
   simp only at h
   cases hcond:(Nat.beq p.2.cells.length k&&Nat.ble (p.1*k+p.2.cells.length) xs.length)with
   |false=>rw[hcond]at h;cases h
   |true=>rw[hcond]at h;rw[ih _ _ h,hsp]
 have hyl:ys.length=n*k:=by rw[hlen _ _ _ hy];simp
 have hzl:zs.size=n*k:=by have:=h6.1;rw[Array.length_toList]at this;omega
 have hr:(execOp a.eval o).run P W= .ok (.value (.slice (some ⟨W.heap.size,0,none⟩) n n)) (W.alloc (.cells zs U)):=by
  simp only[execOp,ho]
  rw[Sem.run_bind,run_buildSlice (P:=P) W T U n _ zs i z hs.ty hi hz (by rw[hik];omega) (by rw[hik];omega) (by rw[hik];simpa[hik]using h5)]
  rfl
 unfold Oper.wp
 rw[hr]
 refine⟨_,_,_,R,rfl,⟨W.heap.size,rfl,rfl⟩,e0r h0 U zs (n*k) ys hzl ?_ (fun _ _=> .val _)⟩
 rw[List.take_of_length_le (by rw[Array.length_toList];omega)]
 exact h6
theorem zV {T U k bs n:Nat}{z:Value}{parts:List (Nat×Operand)}{ps:List (Nat×AV)}{ys:List AV}(ho:o.op= .buildSlice T n parts.toArray:=by exact rfl)(hs:TyS P T U k bs z:=by infer_instance)(hx:evp E parts=some ps:=by exact rfl)(h1:f0W ps=true:=by exact rfl)(hsm:Nat.ble (n*k) 16777216=true:=by rfl)(hpos:Nat.ble 1 (n*k)=true:=by rfl)(hzk:Nat.beq z.cells.size k=true:=by rfl)(hy0:d0T (fun i=>some (i*k,k)) (a0x n z) ps=some ys:=by rfl):OpW P N o E H (b0j (fun b=> .val (.slice (some ⟨b,0,none⟩) n n)) U (n*k) ys):=O.buildSlice ho hx h1 hsm hpos hzk hy0
end
theorem Mods.setRow {S:Nat→Prop}{a w:World}(h:Mods S a w){g:Nat}(hg:g<a.heap.size→S g)(cs:Array Value):Mods S a (w.setRow g cs):=
 ⟨h.os,h.tape,h.output,by simpa[World.setRow]using h.size,fun k hk hs=>(setRow_other w g k cs (fun e=>hs (e▸hg (e▸hk)))).trans (h.block k hk hs)⟩
theorem i0M (w:World)(g o:Nat)(vs:List Value)(cur:Array Value)(t:TypeId)(hg:w.heap[g]? =some (.cells cur t (0,0)))(hfit:o+vs.length≤cur.size)(h1: ∀v∈vs,v.oneCell'=true):
  w.setCells g o vs=w.setRow g (cur.toList.take o++vs++cur.toList.drop (o+vs.length)).toArray:=by
 have a:=run_storeCells_at (default:Program) g o t vs 0 cur w hg (by simpa using hfit) h1
 have b:=run_storeCells_cells (P:=(default:Program)) g o vs 0 w (fun j hj=>by
  rw[cell_of_row w g (o+0+j) cur t (0,0) hg]
  have:o+0+j<cur.size:=by omega
  simp at this⊢;omega) (fun j hj=>by simp[World.frozen?,hg]) h1
 rw[a]at b
 simp only[Nat.add_zero]at b
 injection b with _ e
 exact e.symm
theorem RelS.setEntry {Γ:Cx}{R:Nat→Prop}{H:List HE}{W W':World}(h:RelS Γ R H W){i:Nat}{e e':HE}(hi:H[i]? =some e)(hm:Mods (fun b=>e.foot b) W W')(hf: ∀b,e'.foot b→e.foot b∨(W.heap.size≤b))
  (hok:e'.ok R W'):RelS Γ R (H.set i e') W':=by
 obtain⟨hlt,rfl⟩:=List.getElem?_eq_some_iff.1 hi
 have hmem:H[i]∈H:=List.getElem_mem hlt
 have hR: ∀b,R b→W'.heap[b]? =W.heap[b]? :=fun b hb=>hm.block b (h.rlt b hb) fun hh=>(h.own _ hmem b hh).2 hb
 have hother: ∀j (hj:j<H.length),j≠i→ ∀b,H[j].foot b→ ¬H[i].foot b:=fun j hj hji b hb hb'=>by
  rcases Nat.lt_or_gt_of_ne hji with hlt'|hgt
  ·exact(List.pairwise_iff_getElem.1 h.disj j i hj hlt hlt') b hb hb'
  ·exact(List.pairwise_iff_getElem.1 h.disj i j hlt hj hgt) b hb' hb
 have hold: ∀j (hj:j<H.length),j≠i→ ∀b,H[j].foot b→W'.heap[b]? =W.heap[b]? :=fun j hj hji b hb=>
  hm.block b (HE.ok_lt (h.ok _ (List.getElem_mem hj)) hb) (hother j hj hji b hb)
 have hown': ∀b,e'.foot b→(Γ.w0.heap.size≤b∨Γ.S b)∧ ¬R b:=fun b hb=>by
  rcases hf b hb with h1|h1
  ·exact h.own _ hmem b h1
  ·exact⟨.inl (Nat.le_trans h.mods.size h1),fun hr=>by have:=h.rlt b hr;omega⟩
 refine⟨Mods.then h.mods hm fun b hb hh=> ?_,fun b hb=>Nat.lt_of_lt_of_le (h.rlt b hb) hm.size,h.rsub,h.rnew,?_,?_,?_⟩
 ·rcases(h.own _ hmem b hh).1 with h1|h1
  ·omega
  ·exact h1
 ·intro f hfm
  obtain⟨j,hj,rfl⟩:=List.getElem_of_mem hfm
  rw[List.length_set]at hj
  by_cases hji:i=j
  ·subst hji;rw[List.getElem_set_self];exact hok
  ·rw[List.getElem_set_ne hji]
   exact HE.ok_mono (fun _ h=>h) hR hm.size (hold j hj (Ne.symm hji)) (h.ok _ (List.getElem_mem hj))
 ·intro f hfm b hb
  obtain⟨j,hj,rfl⟩:=List.getElem_of_mem hfm
  rw[List.length_set]at hj
  by_cases hji:i=j
  ·subst hji;rw[List.getElem_set_self]at hb;exact hown' b hb
  ·rw[List.getElem_set_ne hji]at hb
   exact h.own _ (List.getElem_mem hj) b hb
 ·rw[List.pairwise_iff_getElem]
  intro j k hj hk hjk b hb hb'
  rw[List.length_set]at hj hk
  have dis: ∀m (hm':m<H.length),m≠i→H[m].foot b→ ¬e'.foot b:=fun m hm' hmi h1 h2=>by
   rcases hf b h2 with h3|h3
   ·exact hother m hm' hmi b h1 h3
   ·have:=HE.ok_lt (h.ok _ (List.getElem_mem hm')) h1;omega
  by_cases hij:i=j
  ·subst hij
   rw[List.getElem_set_self]at hb
   rw[List.getElem_set_ne (by omega)]at hb'
   exact dis k hk (by omega) hb' hb
  ·rw[List.getElem_set_ne hij]at hb
   by_cases hik:i=k
   ·subst hik
    rw[List.getElem_set_self]at hb'
    exact dis j hj (Ne.symm hij) hb hb'
   ·rw[List.getElem_set_ne hik]at hb'
    exact(List.pairwise_iff_getElem.1 h.disj j k hj hk hjk) b hb hb'
theorem RelA.keep {N:Nat}{R:Nat→Prop}{W W':World}{E:Env}{a:Act}(h:RelA N R W E a)(hR: ∀b,R b→W'.heap[b]? =W.heap[b]?):RelA N R W' E a:=h.mono (fun _ h=>h) hR
section
variable {Γ:Cx}{P:Program}{Q:Exit→Act→World→Prop}{E:Env}{H:List HE}{N:Nat}{o:Oper}{ops:Array Oper}{rest:List Oper}
theorem c0I: ∀(cs xs:List AV) (o:Nat),o+cs.length≤xs.length→a0e xs o cs=xs.take o++cs++xs.drop (o+cs.length)
 | [],xs,o,h=>by simp[a0e]
 | c ::r,xs,o,h=>by
  simp only[cL]at h
  rw[a0e,c0I r _ (o+1) (by simp;omega)]
  apply List.ext_getElem?
  intro k
  simp only[List.getElem?_append,cH,List.length_take,List.length_set,List.getElem?_take,List.getElem?_drop,List.getElem?_set,cL]
  by_cases h1:k<o
  ·simp[h1,show k<o+1 by omega,show min (o+1) xs.length=o+1 by omega,show min o xs.length=o by omega,show k<o+1+r.length by omega,show o≠k by omega,show k<o+(r.length+1) by omega]
  ·by_cases h2:k=o
   ·subst h2;simp[show min (k+1) xs.length=k+1 by omega,show min k xs.length=k by omega,show k<k+1+r.length by omega,show k<xs.length by omega]
   ·by_cases h3:k<o+1+r.length
    ·simp[show min (o+1) xs.length=o+1 by omega,show min o xs.length=o by omega,h1,show ¬k<o+1 by omega,h3,show k<o+(r.length+1) by omega]
     rw[show k-o=(k-(o+1))+1 by omega];simp
    ·simp[show min (o+1) xs.length=o+1 by omega,show min o xs.length=o by omega,h1,show ¬k<o+1 by omega,h3,show ¬k<o+(r.length+1) by omega]
     rw[show k-(o+1+r.length)=k-(o+(r.length+1)) by omega,show o+1+r.length+(k-(o+(r.length+1)))=o+(r.length+1)+(k-(o+(r.length+1))) by omega]
     simp[show o≠o+(r.length+1)+(k-(o+(r.length+1))) by omega]
theorem AO.store {T:Nat}{p x:Operand}{b j:Nat}{v:AV}{i T' room k:Nat}{xs ys:List AV}{g:Bool}{H':List HE}[hg:TyG P T g k](ho:o.op= .store T p x)(hgd:o.guard=none)(hd:o.dst=none)
  (hp:ev E p=some (.val (.pointer (some ⟨b,j,none⟩)))) (hx:ev E x=some v) (hi:H[i]? =some (.blk b T' room xs)) (h1:v.cells.all AV.one=true) (hk:v.cells.length=k) (hjk:Nat.ble (j+k) xs.length=true)
  (hy:a0e xs j v.cells=ys) (hH:H.set i (.blk b T' room ys)=H') (next:AO Γ P ops Q rest E H'):AO Γ P ops Q (o::rest) E H:=fun R a W hs ha=>by
 have hjk:=lB hjk
 obtain⟨d,inf,hd1,hi1,hk1,hg1⟩:=hg.ax
 have hmem:=List.mem_of_getElem? hi
 obtain⟨us,cs,hb,hsz,ht,hr⟩:=hs.ok _ hmem
 have hrv:=ha.ev hx
 have hc:=hrv.cells (fun u hu=>by
  subst hu
  simp only[AV.cells,List.all_cons,List.all_nil,Bool.and_true]at h1
  exact h1) (fun c y hu=>by subst hu;cases h1)
 have hone:=hc.all_one h1
 have hlen:(a.eval x).cells.toList.length=k:=by rw[hc.1,hk]
 have hxs:xs.length≤cs.size:=by
  have:=hr.1
  have h5:cs.toList.length=cs.size:=Array.length_toList
  rw[←ht,List.length_take]at this;omega
 have hrun:=run_storeCells_at (P:=P) b j T' (a.eval x).cells.toList 0 cs W hb (by rw[hlen];omega) hone
 have hex:(execOp a.eval o).run P W= .ok .skip (W.setRow b (cs.toList.take j++(a.eval x).cells.toList++cs.toList.drop (j+k)).toArray):=by
  simp only[execOp,ho,(ha.ev hp).val_inv,Instr.storeAt,Instr.sureAddr,Sem.run_bind,Sem.run_pure,Result.andThen_ok,storeVar,sizeOf,typeInfo,hi1]
  have h5:(a.eval x).cells.size=inf.size:=by rw[Array.length_toList]at hlen;omega
  simp only[run_program,Result.andThen_ok,hi1,Sem.run_pure,h5,ne_eq,not_true_eq_false,if_false]
  rw[hrun,hlen]
  simp
 unfold wpList
 rw[if_pos (by unfold Region.wanted;rw[hgd])]
 refine .inl ?_
 unfold Oper.wp
 rw[hex]
 show wpList P ops Q rest (a.put o.dst undef) _
 rw[hd]
 have hm:Mods (fun c=>(HE.blk b T' room xs).foot c) W (W.setRow b (cs.toList.take j++(a.eval x).cells.toList++cs.toList.drop (j+k)).toArray):=Mods.setRow (S:=fun c=>(HE.blk b T' room xs).foot c) (Mods.refl _ _) (fun _=>rfl) _
 have hR: ∀c,R c→(W.setRow b (cs.toList.take j++(a.eval x).cells.toList++cs.toList.drop (j+k)).toArray).heap[c]? =W.heap[c]? :=fun c hc=>hm.block c (hs.rlt c hc) fun hh=>(hs.own _ hmem c hh).2 hc
 subst hH
 refine next R a _ (hs.setEntry hi hm (fun c hc=> .inl hc) ?_) (ha.keep hR)
 refine⟨_,_,setRow_heap W b cs _ T' _ hb,?_,rfl,?_⟩
 ·rw[List.size_toArray,cH,cH,List.length_take,List.length_drop,Array.length_toList,hlen];omega
 ·rw [←hy,c0I _ _ _ (by rw[hk];omega),hk]
  have e:(cs.toList.take j++(a.eval x).cells.toList++cs.toList.drop (j+k)).take (xs.take j++v.cells++xs.drop (j+k)).length=us.take j++(a.eval x).cells.toList++us.drop (j+k):=by
   have hul:us.length=xs.length:=hr.1
   apply List.ext_getElem?
   intro q
   subst ht
   simp only[List.getElem?_take,List.getElem?_append,cH,List.length_take,List.length_drop,hlen,hk,Array.length_toList,List.getElem?_drop]
   by_cases q1:q<j
   ·simp[q1,show q<xs.length by omega,show q<min j xs.length+k+(xs.length-(j+k)) by omega,show q<min j cs.size+k by omega,show q<min j cs.size by omega,show q<min j (min xs.length cs.size)+k by omega,show q<min j (min xs.length cs.size) by omega]
   ·by_cases q2:q<j+k
    ·simp[show min j xs.length=j by omega,show min j cs.size=j by omega,show min xs.length cs.size=xs.length by omega,q1,q2,show q<j+k+(xs.length-(j+k)) by omega]
    ·by_cases q3:q<xs.length
     ·simp[show min j xs.length=j by omega,show min j cs.size=j by omega,show min xs.length cs.size=xs.length by omega,q1,q2,show q<j+k+(xs.length-(j+k)) by omega,show j+k+(q-(j+k))<xs.length by omega]
     ·simp[show min j xs.length=j by omega,show min j cs.size=j by omega,show min xs.length cs.size=xs.length by omega,q1,q2,show ¬q<j+k+(xs.length-(j+k)) by omega,show ¬j+k+(q-(j+k))<xs.length by omega]
  show RelL R _ _ (List.take _ (cs.toList.take j++(a.eval x).cells.toList++cs.toList.drop (j+k)))
  rw[e]
  exact(((hr.take j).app (by exact hc)).app (hr.drop (j+k))).mono (fun _ h=>h) hR
theorem za {T:Nat}{p x:Operand}{b j:Nat}{v:AV}(i:Nat){T' room k:Nat}{xs ys:List AV}{g:Bool}{H':List HE}(next:AO Γ P ops Q rest E H')(ho:o.op= .store T p x:=by exact rfl)(hg:TyG P T g k:=by infer_instance)(hgd:o.guard=none:=by exact rfl)(hd:o.dst=none:=by exact rfl)(hp:ev E p=some (.val (.pointer (some ⟨b,j,none⟩))):=by exact rfl)(hx:ev E x=some v:=by exact rfl)(hi:H[i]? =some (.blk b T' room xs):=by exact rfl)(h1:v.cells.all AV.one=true:=by rfl)(hk:v.cells.length=k:=by rfl)(hjk:Nat.ble (j+k) xs.length=true:=by rfl)(hy:a0e xs j v.cells=ys:=by(dsimp only[List.set,cA,cN,List.take,List.drop];done))(hH:H.set i (.blk b T' room ys)=H':=by(dsimp only[List.set,cA,cN,List.take,List.drop];done)):AO Γ P ops Q (o::rest) E H:=AO.store (i:=i) ho hgd hd hp hx hi h1 hk hjk hy hH next
theorem zo {T:Nat}{p x:Operand}{b j:Nat}{v:AV}(i:Nat){T' room k:Nat}{xs ys:List AV}{g:Bool}{H':List HE}(next:AO Γ P ops Q rest E H')(ho:o.op= .store T p x:=by exact rfl)(hg:TyG P T g k:=by infer_instance)(hgd:o.guard=none:=by exact rfl)(hd:o.dst=none:=by exact rfl)(hp:ev E p=some (.val (.pointer (some ⟨b,j,none⟩))):=by exact rfl)(hx:ev E x=some v:=by exact rfl)(hi:H[i]? =some (.blk b T' room xs):=by exact rfl)(h1:v.cells.all AV.one=true:=by rfl)(hk:v.cells.length=k:=by rfl)(hjk:Nat.ble (j+k) xs.length=true:=by rfl)(hy:a0e xs j v.cells=ys:=by(dsimp only[List.set,List.append,cA,cN,a0w,a0v,a0y,a0e,a0A,AV.cells,List.map,List.map_cons,List.map_nil,List.take,List.drop,Nat.zero_add,Nat.add_zero,Nat.reduceAdd,Nat.reduceMul,Nat.zero_mul,Value.cells,List.toList_toArray,a0x,List.replicate,List.flatten,cP];done))(hH:H.set i (.blk b T' room ys)=H':=by(dsimp only[List.set,List.append,cA,cN,a0w,a0v,a0y,a0e,a0A,AV.cells,List.map,List.map_cons,List.map_nil,List.take,List.drop,Nat.zero_add,Nat.add_zero,Nat.reduceAdd,Nat.reduceMul,Nat.zero_mul,Value.cells,List.toList_toArray,a0x,List.replicate,List.flatten,cP];done)):AO Γ P ops Q (o::rest) E H:=AO.store (i:=i) ho hgd hd hp hx hi h1 hk hjk hy hH next
theorem yg {T:Nat}{p x:Operand}{b j:Nat}{v:AV}(i:Nat){T' room k:Nat}{xs ys:List AV}{g:Bool}{H':List HE}(next:AO Γ P ops Q rest E H')(ho:o.op= .store T p x:=by exact rfl)(hg:TyG P T g k:=by infer_instance)(hgd:o.guard=none:=by exact rfl)(hd:o.dst=none:=by exact rfl)(hp:ev E p=some (.val (.pointer (some ⟨b,j,none⟩))):=by exact rfl)(hx:ev E x=some v:=by exact rfl)(hi:H[i]? =some (.blk b T' room xs):=by exact rfl)(h1:v.cells.all AV.one=true:=by exact d0z _ _)(hk:v.cells.length=k:=by exact a0b _ _)(hjk:Nat.ble (j+k) xs.length=true:=by exact Nat.ble_eq_true_of_le (Nat.le_of_eq (a0b _ _).symm))(hy:a0e xs j v.cells=ys:=by exact b0K (a0b _ _))(hH:H.set i (.blk b T' room ys)=H':=by(dsimp only[List.set,cA,cN,List.take,List.drop];done)):AO Γ P ops Q (o::rest) E H:=AO.store (i:=i) ho hgd hd hp hx hi h1 hk hjk hy hH next
theorem yx {T:Nat}{p x:Operand}{b j:Nat}{v:AV}(i:Nat){T' room k:Nat}{xs ys:List AV}{g:Bool}{H':List HE}(next:AO Γ P ops Q rest E H')(ho:o.op= .store T p x:=by exact rfl)(hg:TyG P T g k:=by infer_instance)(hgd:o.guard=none:=by exact rfl)(hd:o.dst=none:=by exact rfl)(hp:ev E p=some (.val (.pointer (some ⟨b,j,none⟩))):=by exact rfl)(hx:ev E x=some v:=by exact rfl)(hi:H[i]? =some (.blk b T' room xs):=by exact rfl)(h1:v.cells.all AV.one=true:=by(simp[AV.cells,AV.one, *];done))(hk:v.cells.length=k:=by rfl)(hjk:Nat.ble (j+k) xs.length=true:=by rfl)(hy:a0e xs j v.cells=ys:=by(dsimp only[List.set,List.append,cA,cN,a0w,a0v,a0y,a0e,a0A,AV.cells,List.map,List.map_cons,List.map_nil,List.take,List.drop,Nat.zero_add,Nat.add_zero,Nat.reduceAdd,Nat.reduceMul,Nat.zero_mul,Value.cells,List.toList_toArray,a0x,List.replicate,List.flatten,cP];done))(hH:H.set i (.blk b T' room ys)=H':=by(dsimp only[List.set,List.append,cA,cN,a0w,a0v,a0y,a0e,a0A,AV.cells,List.map,List.map_cons,List.map_nil,List.take,List.drop,Nat.zero_add,Nat.add_zero,Nat.reduceAdd,Nat.reduceMul,Nat.zero_mul,Value.cells,List.toList_toArray,a0x,List.replicate,List.flatten,cP];done)):AO Γ P ops Q (o::rest) E H:=AO.store (i:=i) ho hgd hd hp hx hi h1 hk hjk hy hH next
theorem yF {T:Nat}{p x:Operand}{b j:Nat}{v:AV}(i:Nat){T' room k:Nat}{xs ys:List AV}{g:Bool}{H':List HE}(next:AO Γ P ops Q rest E H')(ho:o.op= .store T p x:=by exact rfl)(hg:TyG P T g k:=by infer_instance)(hgd:o.guard=none:=by exact rfl)(hd:o.dst=none:=by exact rfl)(hp:ev E p=some (.val (.pointer (some ⟨b,j,none⟩))):=by exact rfl)(hx:ev E x=some v:=by exact rfl)(hi:H[i]? =some (.blk b T' room xs):=by exact rfl)(h1:v.cells.all AV.one=true:=by(simp[AV.cells,AV.one, *];done))(hk:v.cells.length=k:=by rfl)(hjk:Nat.ble (j+k) xs.length=true:=by rfl)(hy:a0e xs j v.cells=ys:=by(dsimp only[List.set,cA,cN,List.take,List.drop];done))(hH:H.set i (.blk b T' room ys)=H':=by(dsimp only[List.set,cA,cN,List.take,List.drop];done)):AO Γ P ops Q (o::rest) E H:=AO.store (i:=i) ho hgd hd hp hx hi h1 hk hjk hy hH next
theorem yO {T:Nat}{p x:Operand}{b j:Nat}{v:AV}(i:Nat){T' room k:Nat}{xs ys:List AV}{g:Bool}{H':List HE}[hg:TyG P T g k](ho:o.op= .store T p x)(hgd:o.guard=none)(hd:o.dst=none)(hp:ev E p=some (.val (.pointer (some ⟨b,j,none⟩))))(hx:ev E x=some v)(hi:H[i]? =some (.blk b T' room xs))(h1:v.cells.all AV.one=true)(hk:v.cells.length=k)(hjk:Nat.ble (j+k) xs.length=true)(hy:a0e xs j v.cells=ys)(next:AO Γ P ops Q rest E H')(hH:H.set i (.blk b T' room ys)=H':=by(dsimp only[List.set,cA,cN,List.take,List.drop];done)):AO Γ P ops Q (o::rest) E H:=AO.store (i:=i) ho hgd hd hp hx hi h1 hk hjk hy hH next
theorem y0 {T:Nat}{p x:Operand}{b j:Nat}{v:AV}(i:Nat){T' room k:Nat}{xs ys:List AV}{g:Bool}{H':List HE}(next:AO Γ P ops Q rest E H')(ho:o.op= .store T p x:=by exact rfl)(hg:TyG P T g k:=by infer_instance)(hgd:o.guard=none:=by exact rfl)(hd:o.dst=none:=by exact rfl)(hp:ev E p=some (.val (.pointer (some ⟨b,j,none⟩))):=by exact rfl)(hx:ev E x=some v:=by exact rfl)(hi:H[i]? =some (.blk b T' room xs):=by exact rfl)(h1:v.cells.all AV.one=true:=by rfl)(hk:v.cells.length=k:=by rfl)(hjk:Nat.ble (j+k) xs.length=true:=by rfl)(hy:a0e xs j v.cells=ys:=by(dsimp only[List.set,List.append,cA,cN,AV.cells,a0e,List.take,List.drop,Nat.reduceAdd];done))(hH:H.set i (.blk b T' room ys)=H':=by(dsimp only[List.set,List.append,cA,cN,AV.cells,a0e,List.take,List.drop,Nat.reduceAdd];done)):AO Γ P ops Q (o::rest) E H:=AO.store (i:=i) ho hgd hd hp hx hi h1 hk hjk hy hH next
theorem xi {T:Nat}{p x:Operand}{b j:Nat}{v:AV}(i:Nat){T' room k:Nat}{xs ys:List AV}{g:Bool}{H':List HE}(next:AO Γ P ops Q rest E H')(ho:o.op= .store T p x:=by exact rfl)(hg:TyG P T g k:=by infer_instance)(hgd:o.guard=none:=by exact rfl)(hd:o.dst=none:=by exact rfl)(hp:ev E p=some (.val (.pointer (some ⟨b,j,none⟩))):=by exact rfl)(hx:ev E x=some v:=by exact rfl)(hi:H[i]? =some (.blk b T' room xs):=by exact rfl)(h1:v.cells.all AV.one=true:=by exact d0z _ _)(hk:v.cells.length=k:=by exact a0b _ _)(hjk:Nat.ble (j+k) xs.length=true:=by rfl)(hy:a0e xs j v.cells=ys:=by exact b0K rfl)(hH:H.set i (.blk b T' room ys)=H':=by(dsimp only[List.set,cA,cN,List.take,List.drop];done)):AO Γ P ops Q (o::rest) E H:=AO.store (i:=i) ho hgd hd hp hx hi h1 hk hjk hy hH next
theorem xK {T:Nat}{p x:Operand}{b j:Nat}{v:AV}(i:Nat){T' room k:Nat}{xs ys:List AV}{g:Bool}{H':List HE}(next:AO Γ P ops Q rest E H')(ho:o.op= .store T p x:=by exact rfl)(hg:TyG P T g k:=by infer_instance)(hgd:o.guard=none:=by exact rfl)(hd:o.dst=none:=by exact rfl)(hp:ev E p=some (.val (.pointer (some ⟨b,j,none⟩))):=by exact rfl)(hx:ev E x=some v:=by exact rfl)(hi:H[i]? =some (.blk b T' room xs):=by exact rfl)(h1:v.cells.all AV.one=true:=by rfl)(hk:v.cells.length=k:=by rfl)(hjk:Nat.ble (j+k) xs.length=true:=by rfl)(hy:a0e xs j v.cells=ys:=by(dsimp only[List.set,List.append,cA,cN,a0e,a0A,AV.cells,List.map,List.map_cons,List.map_nil,List.take,List.drop,Nat.zero_add,Nat.add_zero,Nat.reduceAdd,Nat.reduceMul,Nat.zero_mul,Value.cells,List.toList_toArray,a0x,List.replicate,List.flatten,cP];done))(hH:H.set i (.blk b T' room ys)=H':=by(dsimp only[List.set,List.append,cA,cN,a0e,a0A,AV.cells,List.map,List.map_cons,List.map_nil,List.take,List.drop,Nat.zero_add,Nat.add_zero,Nat.reduceAdd,Nat.reduceMul,Nat.zero_mul,Value.cells,List.toList_toArray,a0x,List.replicate,List.flatten,cP];done)):AO Γ P ops Q (o::rest) E H:=AO.store (i:=i) ho hgd hd hp hx hi h1 hk hjk hy hH next
def SrcA (P:Program)(T sz:Nat)(H:List HE)(x:AV)(n:Nat)(ys:List AV):Prop:=
 ys.length=n*sz∧ ∀R W u,(∀e∈H,e.ok R W)→RelV R W x u→ ∃us,RelL R W ys us∧((∀v∈us,v.oneCell'=true)→Src P sz T u n us W)
theorem SrcA.ro {T U sz n:Nat}{full:Bool}{ys:List AV}(ht:P.underlying T=some (.slice U))(hl:ys.length=n*sz)(hz:0<sz):SrcA P T sz H (.ro full n ys) n ys:=by
 refine⟨hl,fun R W u _ hv=> ?_⟩
 cases hv with
 |emp _ ad cap h1 h2=>
  refine⟨[],RelL.nil,fun _=> ?_⟩
  cases ad with
  |none=>exact Src.ofNil W ht cap
  |some ad=>exact Src.ofSlice W ht ad 0 cap [] (by simp) (fun j v h=>by simp at h) (fun u h=>by cases h)
 | ro _ _ _ b off cap us hb hc hr h1 h2 h3=>
  refine⟨(List.range ys.length).map us,⟨by simp,fun j hj=> ?_⟩,fun h9=>Src.ofSlice W ht ⟨b,off,none⟩ n cap _ (by simpa using hl) (fun j v h=> ?_) h9⟩
  ·have:((List.range ys.length).map us).getD j undef=us j:=by simp[List.getD,hj]
   rw[this];exact hr j hj
  ·obtain⟨h4,rfl⟩:=List.getElem?_eq_some_iff.1 h
   simp at h4
   rw[a0N]
   simpa using hc j h4
theorem SrcA.nil {T U sz:Nat}(ht:P.underlying T=some (.slice U)):SrcA P T sz H (.val (.slice none 0 0)) 0 []:=
 ⟨by simp,fun R W u _ hv=>by rw[hv.val_inv];exact⟨[],RelL.nil,fun _=>Src.ofNil W ht 0⟩⟩
theorem SrcA.blk {T U sz n cap b off T' room:Nat}{xs ys:List AV}(ht:P.underlying T=some (.slice U))(hm:HE.blk b T' room xs∈H)(hy:(xs.drop off).take (n*sz)=ys)(hl:ys.length=n*sz):SrcA P T sz H (.val (.slice (some ⟨b,off,none⟩) n cap)) n ys:=by
 refine⟨hl,fun R W u hok hv=> ?_⟩
 rw[hv.val_inv]
 obtain⟨us,cs,hb,hsz,hts,hr⟩:=hok _ hm
 have hrl:=(hr.drop off).take (n*sz)
 rw[hy]at hrl
 refine⟨_,hrl,fun h9=>Src.ofSlice W ht ⟨b,off,none⟩ n cap _ (by rw[hrl.1,hl]) (fun j v h=> ?_) h9⟩
 rw[a0N,cell_of_row W b (off+j) cs T' (0,0) hb]
 rw[List.getElem?_take]at h
 split at h
 ·rw[List.getElem?_drop,←hts,List.getElem?_take]at h
  split at h
  ·simpa using h
  ·cases h
 ·cases h
theorem SrcA.row {T U T' sz n:Nat}{v:Value}{ys:List AV}(ht:P.underlying T=some (.slice U))(hm:HE.row v T' sz n ys∈H)(hl:ys.length=n*sz):SrcA P T sz H (.val v) n ys:=by
 refine⟨hl,fun R W u hok hv=> ?_⟩
 rw[hv.val_inv]
 obtain⟨us,hw,hr⟩:=hok _ hm
 refine⟨us,hr,fun h9=> ?_⟩
 rcases hw.2 with⟨rfl,rfl⟩|⟨g,cap,cur,rfl,hbg,hg,h1,h2,h3,h4⟩
 ·have:us= []:=List.eq_nil_of_length_eq_zero (by simpa using hw.1)
  subst this
  exact Src.ofNil W ht 0
 ·exact Src.ofSlice W ht ⟨g,0,none⟩ n cap us (by rw[hr.1,hl]) (hw.cells (g:=g) rfl) h9
theorem SrcA.str {T:Nat}{s:ByteArray}{ys:List AV}(ht:P.underlying T=some .string)(hy:(byteCells s).map .val=ys):SrcA P T 1 H (.val (.string s)) s.size ys:=
 ⟨by subst hy;rw[List.length_map,byteCells_length,Nat.mul_one],fun R W u hok hv=>by
  rw[hv.val_inv]
  subst hy
  exact⟨byteCells s,d0p R W _,fun _=>Src.ofString W ht s⟩⟩
theorem c0B {T U T2 k bs:Nat}{z:Value}(hs:TyS P T U k bs z)(hz:z.cells.size=k)(hk:0<k){W:World}{v:Value}{n m:Nat}{us news:List Value}(hown:W.ownsRow 0 U k v n us){x:Value}(hsrc:Src P k T2 x m news W)
  (h63:n+m≤maxLen) (hby:(n+m)*bs≤140737488355328) (ty:TypeId):
  ∃v' W',(Builtin.append_ #[T,T2] ty #[v,x]).run P W= .ok v' W'∧W'.ownsRow 0 U k v' (n+m) (us++news)∧W.grownBy W' v.ownBlock∧(v'.ownBlock=v.ownBlock∨v'.ownBlock=some W.heap.size)∧v'.oneCell'=true:=by
 obtain⟨i,hi,hik,hib,hiz⟩:=hs.el
 have hsmall:n+m≤9223372036854775807:=by simp only[maxLen]at h63;omega
 have hlen:(us++news).length=(n+m)*k:=by rw[cH,hown.1,hsrc.newsLen,Nat.add_mul]
 have hsrc':Src P i.size T2 x m news W:=by rw[hik];exact hsrc
 have grown: ∀(old:Nat),old<n+m→ ∀(row:Option Nat),
   (W.drew.alloc (.cells ((us++news).toArray++Builtin.zeroCells z.cells (grownCap W (n+m) old U-(n+m))) U)).ownsRow 0 U k
    (.slice (some ⟨W.heap.size,0,none⟩) (n+m) (grownCap W (n+m) old U)) (n+m) (us++news)∧
   W.grownBy (W.drew.alloc (.cells ((us++news).toArray++Builtin.zeroCells z.cells (grownCap W (n+m) old U-(n+m))) U)) row:=by
  intro old ho row
  have hge:=grownCap_ge W (n+m) old U
  have hcm:grownCap W (n+m) old U≤maxLen:=grownCap_le_maxLen W (n+m) old U h63
  refine⟨⟨hlen,.inr ⟨W.heap.size,_,_,rfl,Nat.zero_le _,heap_alloc_new W.drew _,hge,hcm,?_,?_⟩⟩,⟨rfl,rfl,rfl,by simp,fun q hq _=>Below.heap_alloc W.drew _ q hq⟩⟩
  ·rw[Array.size_append,List.size_toArray,size_zeroCells,hz,hlen,←Nat.add_mul]
   congr 1
   omega
  ·rw[Array.toList_append,←hlen]
   exact List.take_left
 rcases hown.2 with⟨rfl,rfl⟩|⟨g,cap,cur,rfl,hbg,hg,hnc,hcm,hcs,htake⟩
 ·have hx:us= []:=List.eq_nil_of_length_eq_zero (by simpa using hown.1)
  subst hx
  by_cases hm:m=0
  ·subst hm
   have hn:news= []:=List.eq_nil_of_length_eq_zero (by simpa using hsrc.newsLen)
   subst hn
   exact⟨_,_,run_append_nothing (P:=P) W T T2 ty U i hs.ty hi none 0 0 (Nat.le_refl _) x hsrc',World.ownsRow_nil ..,⟨rfl,rfl,rfl,Nat.le_refl _,fun _ _ _=>rfl⟩,.inl rfl,rfl⟩
  ·have hr:=run_append_grow_src (P:=P) W T T2 ty U i z hs.ty hi hiz none 0 0 [] (by simp[Builtin.firstCells]) x m news hsrc' (by omega) (by omega) (growslice_fits (by omega) (by rw[hib];exact hby))
   have hgr:=grown 0 (by omega) (Value.ownBlock (.slice none 0 0))
   simp only[cN]at hgr hr⊢
   exact⟨_,_,hr,hgr.1,hgr.2,.inr rfl,rfl⟩
 ·by_cases hroom:n+m≤cap
  ·have hfit:n*k+news.length≤cur.size:=by rw[hsrc.newsLen,hcs,←Nat.add_mul];exact Nat.mul_le_mul_right _ hroom
   have hr:=run_append_room_src (P:=P) W T T2 ty U i hs.ty hi g 0 n cap x m news hsrc' hroom (fun j hj=>by
    rw[cell_of_row W g _ cur U (0,0) hg]
    have:0+n*i.size+j<cur.size:=by rw[hik];omega
    simp at this⊢;omega) (fun j hj=>by simp[World.frozen?,hg])
   rw[hik,Nat.zero_add,i0M W g (n*k) news cur U hg hfit hsrc.one]at hr
   refine⟨_,_,hr,⟨hlen,.inr ⟨g,cap,_,rfl,Nat.zero_le _,setRow_heap W g cur _ U _ hg,hroom,hcm,?_,?_⟩⟩,⟨rfl,rfl,rfl,by simp[World.setRow],fun q _ hq=>setRow_other W g q _ (fun e=>hq (by simp[Value.ownBlock,e]))⟩,.inl rfl,rfl⟩
   ·simp only[List.size_toArray,cH,List.length_take,List.length_drop,Array.length_toList]
    omega
   ·show List.take _ (cur.toList.take (n*k)++news++cur.toList.drop (n*k+news.length))=_
    rw[htake,←hlen]
    exact List.take_left
  ·have holds:(Builtin.firstCells i.size n (.slice (some ⟨g,0,none⟩) n cap)).run P W.drew= .ok us.toArray W.drew:=by
    have:=run_firstCells_some (P:=P) W.drew i.size n ⟨g,0,none⟩ n cap us (by rw[hik];exact hown.1) (by simpa using hown.cells (g:=g) rfl)
    exact this
   have hr:=run_append_grow_src (P:=P) W T T2 ty U i z hs.ty hi hiz (some ⟨g,0,none⟩) n cap us holds x m news hsrc' (by omega) (by omega) (growslice_fits (by omega) (by rw[hib];exact hby))
   have hgr:=grown cap (by omega) (Value.ownBlock (.slice (some ⟨g,0,none⟩) n cap))
   exact⟨_,_,hr,hgr.1,hgr.2,.inr rfl,rfl⟩
theorem e0h {T T2:Nat}{s x:Operand}(ho:o.op= .call {callee:= .builtin .append,args:= #[s,x],argTypes:= #[T,T2]}){a:Act}{W W':World}{v':Value}(hr:(Builtin.append_ #[T,T2] o.type #[a.eval s,a.eval x]).run P W= .ok v' W'):
  (execOp a.eval o).run P W= .ok (.value v') W':=by
 simp only[execOp,ho,resolve,invoke,builtin,Sem.run_bind,Sem.run_pure,Result.andThen_ok,List.map_toArray,List.map_cons,List.map_nil,hr]
theorem AO.append {T T2 U k bs d:Nat}{z:Value}{s x:Operand}{v:Value}{w:AV}{i n m:Nat}{xs ys:List AV}[hs:TyS P T U k bs z](ho:o.op= .call {callee:= .builtin .append,args:= #[s,x],argTypes:= #[T,T2]})(hgd:o.guard=none)(hd:o.dst=some d)(hN:d<Γ.N)
  (hz:Nat.beq z.cells.size k=true) (hk:Nat.ble 1 k=true) (hv:ev E s=some (.val v)) (hx:ev E x=some w) (hi:H[i]? =some (.row v U k n xs)) (hsrc:SrcA P T2 k H w m ys) (hone:ys.all AV.one=true) (hn:n+m≤maxLen) (hby:(n+m)*bs≤140737488355328)
  (next: ∀v':Value,v'.oneCell'=true→AO Γ P ops Q rest ((d,.val v')::E) (H.set i (.row v' U k (n+m) (xs++ys)))):AO Γ P ops Q (o::rest) E H:=fun R a W hs' ha=>by
 have hmem:=List.mem_of_getElem? hi
 obtain⟨us,hown,hr⟩:=hs'.ok _ hmem
 obtain⟨news,h1,h2⟩:=hsrc.2 R W (a.eval x) hs'.ok (ha.ev hx)
 obtain⟨v',W',hrun,hown',hgr,hblk,h1c⟩:=c0B hs (Nat.eq_of_beq_eq_true hz) (lB hk) hown (h2 (h1.all_one hone)) hn hby o.type
 unfold wpList
 rw[if_pos (by unfold Region.wanted;rw[hgd])]
 refine .inl ?_
 unfold Oper.wp
 rw[e0h ho (by rw[(ha.ev hv).val_inv];exact hrun)]
 show wpList P ops Q rest (a.put o.dst v') W'
 rw[hd]
 have hm:Mods (fun c=>(HE.row v U k n xs).foot c) W W':=Mods.grown (Mods.refl _ _) hgr fun c hc _=>hc
 have hR: ∀c,R c→W'.heap[c]? =W.heap[c]? :=fun c hc=>hm.block c (hs'.rlt c hc) fun hh=>(hs'.own _ hmem c hh).2 hc
 refine next v' h1c R _ W' (hs'.setEntry hi hm (fun c hc=> ?_) ⟨_,hown',(hr.app h1).mono (fun _ h=>h) hR⟩) ((ha.keep hR).put hN (.val _))
 rcases hblk with hb|hb
 ·exact .inl (by rw[HE.foot]at hc⊢;rw[←hb];exact hc)
 ·rw[HE.foot,hb]at hc;cases hc;exact .inr (Nat.le_refl _)
def b0p (U k n:Nat)(xs:List AV):AV→List HE→Prop:=fun v' Hn=> ∃v:Value,v'= .val v∧v.oneCell'=true∧Hn= [.row v U k n xs]
theorem O.appendNil {T T2 U k bs:Nat}{z:Value}{s x:Operand}{w:AV}{m:Nat}{ys:List AV}[hs:TyS P T U k bs z](ho:o.op= .call {callee:= .builtin .append,args:= #[s,x],argTypes:= #[T,T2]})
  (hz:Nat.beq z.cells.size k=true) (hk:Nat.ble 1 k=true) (hv:ev E s=some (.val (.slice none 0 0))) (hx:ev E x=some w) (hsrc:SrcA P T2 k H w m ys) (hone:ys.all AV.one=true) (hn:m≤maxLen) (hby:m*bs≤140737488355328):
  OpW P N o E H (b0p U k m ys):=fun R a W h0 h2 h3 ha=>by
 obtain⟨news,h4,h5⟩:=hsrc.2 R W (a.eval x) h2 (ha.ev hx)
 obtain⟨v',W',hrun,hown',hgr,hblk,h1c⟩:=c0B hs (Nat.eq_of_beq_eq_true hz) (lB hk) (World.ownsRow_nil W 0 U k) (h5 (h4.all_one hone)) (by omega) (by rw[Nat.zero_add];exact hby) o.type
 unfold Oper.wp
 rw[e0h ho (by rw[(ha.ev hv).val_inv];exact hrun)]
 have hm:Ext W W':=Mods.grown (Mods.refl _ _) hgr fun c hc _=>by cases hc
 rw[Nat.zero_add,cN]at hown'
 refine⟨v',.val v',_,R,rfl,⟨v',rfl,h1c,rfl⟩,hm,fun _ h=>h,fun _ h=> .inl h,.val _,?_,by simp⟩
 intro e he
 obtain rfl:e=_:=by simpa using he
 refine⟨⟨news,hown',h4.mono (fun _ h=>h) (c0D hm h0)⟩,fun c hc=> ?_⟩
 rcases hblk with hb|hb
 ·rw[HE.foot,hb]at hc;cases hc
 ·rw[HE.foot,hb]at hc;cases hc
  exact⟨Nat.le_refl _,fun h=>by have:=h0 _ h;omega⟩
theorem zY {T T2 U k bs:Nat}{z:Value}{s x:Operand}{w:AV}{m:Nat}{ys:List AV}(ho:o.op= .call {callee:= .builtin .append,args:= #[s,x],argTypes:= #[T,T2]}:=by exact rfl)(hs:TyS P T U k bs z:=by infer_instance)(hz:Nat.beq z.cells.size k=true:=by rfl)(hk:Nat.ble 1 k=true:=by rfl)(hv:ev E s=some (.val (.slice none 0 0)):=by exact rfl)(hx:ev E x=some w:=by exact rfl)(hsrc:SrcA P T2 k H w m ys:=by exact SrcA.ro TyD.ax (by(simp;done)) (lB rfl))(hone:ys.all AV.one=true:=by(simp[AV.cells,AV.one, *];done))(hn:m≤maxLen:=by(unfold maxLen;omega))(hby:m*bs≤140737488355328:=by omega):OpW P N o E H (b0p U k m ys):=O.appendNil ho hz hk hv hx hsrc hone hn hby
theorem xh {T T2 U k bs:Nat}{z:Value}{s x:Operand}{w:AV}{m:Nat}{ys:List AV}(ho:o.op= .call {callee:= .builtin .append,args:= #[s,x],argTypes:= #[T,T2]}:=by exact rfl)(hs:TyS P T U k bs z:=by infer_instance)(hz:Nat.beq z.cells.size k=true:=by rfl)(hk:Nat.ble 1 k=true:=by rfl)(hv:ev E s=some (.val (.slice none 0 0)):=by exact rfl)(hx:ev E x=some w:=by exact rfl)(hsrc:SrcA P T2 k H w m ys:=by exact SrcA.ro TyD.ax (by(simp;done)) (lB rfl))(hone:ys.all AV.one=true:=by(simp[AV.cells,AV.one, *];done))(hn:m≤maxLen:=by(unfold maxLen;simp only[List.length_take,List.length_drop,cH,cL,cE,List.length_set,Nat.zero_add];omega))(hby:m*bs≤140737488355328:=by(simp only[List.length_take,List.length_drop,cH,cL,cE,List.length_set,Nat.zero_add];omega)):OpW P N o E H (b0p U k m ys):=O.appendNil ho hz hk hv hx hsrc hone hn hby
theorem G.freezeRow {X:Act→World→Prop}(i:Nat){v:Value}{T sz n:Nat}{xs:List AV}(hi:H[i]? =some (.row v T sz n xs))(ts:List Nat)(ht: ∀t∈ts,a0r E t=some (.val v))(k:G Γ (ts.map (·,.ro false n xs)++E) (H.eraseIdx i) X):G Γ E H X:=fun R a W hs ha=>by
 have hmem:=List.mem_of_getElem? hi
 obtain⟨hlt,he⟩:=List.getElem?_eq_some_iff.1 hi
 have hsub:(H.eraseIdx i).Sublist H:=List.eraseIdx_sublist _ _
 have hdis: ∀f∈H.eraseIdx i,∀b,f.foot b→ ¬(HE.row v T sz n xs).foot b:=fun f hf b hb hb'=>by
  obtain⟨j,hj,rfl⟩:=List.getElem_of_mem hf
  rw[List.getElem_eraseIdx]at hb
  rw[List.length_eraseIdx,if_pos hlt]at hj
  split at hb
  ·exact(List.pairwise_iff_getElem.1 hs.disj j i (by omega) hlt (by omega)) b hb (by rw[he];exact hb')
  ·exact(List.pairwise_iff_getElem.1 hs.disj i (j+1) hlt (by omega) (by omega)) b (by rw[he];exact hb') hb
 have hRS: ∀b,R b→R b∨(HE.row v T sz n xs).foot b:=fun b h=> .inl h
 obtain⟨us,hown,hr⟩:=hs.ok _ hmem
 refine k (fun b=>R b∨(HE.row v T sz n xs).foot b) a W ⟨hs.mods,?_,fun b hb=> .inl (hs.rsub b hb),?_,fun e he=>HE.ok_mono hRS (fun _ _=>rfl) (Nat.le_refl _) (fun _ _=>rfl) (hs.ok e (hsub.subset he)),?_,hs.disj.sublist hsub⟩ ?_
 ·rintro b (hb|hb)
  ·exact hs.rlt b hb
  ·exact HE.ok_lt (hs.ok _ hmem) hb
 ·rintro b (hb|hb)
  ·exact hs.rnew b hb
  ·exact .inr (hs.own _ hmem b hb).1
 ·intro e he b hb
  refine⟨(hs.own e (hsub.subset he) b hb).1,?_⟩
  rintro(h|h)
  ·exact(hs.own e (hsub.subset he) b hb).2 h
  ·exact hdis e he b hb h
 ·have hA:RelA Γ.N (fun b=>R b∨(HE.row v T sz n xs).foot b) W E a:=ha.mono hRS (fun _ _=>rfl)
  have hV:RelV (fun b=>R b∨(HE.row v T sz n xs).foot b) W (.ro false n xs) v:=by
   have hr':=hr.mono hRS (W':=W) (fun _ _=>rfl)
   rcases hown.2 with⟨rfl,rfl⟩|⟨g,cap,cur,rfl,hbg,hg,h1,h2,h3,h4⟩
   ·have:xs= []:=List.eq_nil_of_length_eq_zero (by rw[←hr.1,hown.1];simp)
    subst this
    exact .emp _ _ _ (fun h=>by cases h) (Nat.zero_le _)
   ·refine .ro false n xs g 0 cap (fun j=>us.getD j undef) (.inr rfl) (fun j hj=> ?_) (fun j hj=>hr'.2 j hj) h1 h2 (fun h=>by cases h)
    have hj':j<us.length:=by rw[hr.1];exact hj
    have:=hown.cells (g:=g) rfl j us[j] (by simp[hj'])
    rw[a0N]at this
    rw[this]
    simp[List.getD,hj']
  clear k
  induction ts with
  |nil=>exact hA
  | cons t ts ih=>
   refine⟨hA.defers,hA.size,fun t' w hw=> ?_⟩
   simp only[List.map_cons,cA]at hw
   unfold a0r at hw
   cases hb:Nat.beq t t' with
   |true=>
    rw[hb]at hw
    have:=Nat.eq_of_beq_eq_true hb
    subst this
    cases hw
    have h9:=(hA.slots t _ (ht t (List.mem_cons_self ..))).val_inv
    rw[h9];exact hV
   |false=>
    rw[hb]at hw
    exact(ih fun t ht'=>ht t (List.mem_cons_of_mem _ ht')).slots t' w hw
theorem yf {X:Act→World→Prop}{v:Value}{T sz n:Nat}{xs:List AV}(i:Nat)(ts:List Nat)(k:G Γ (ts.map (·,.ro false n xs)++E) (H.eraseIdx i) X)(hi:H[i]? =some (.row v T sz n xs):=by exact rfl)(ht: ∀t∈ts,a0r E t=some (.val v):=by(repeat(first|exact v0D|refine s0h rfl ?_));done):G Γ E H X:=G.freezeRow i hi ts ht k
theorem yQ {X:Act→World→Prop}{v:Value}{T sz n:Nat}{xs:List AV}(i:Nat)(ts:List Nat)(k:G Γ (ts.map (·,.ro false n xs)++E) (H.eraseIdx i) X)(hi:H[i]? =some (.row v T sz n xs):=by exact rfl)(ht: ∀t∈ts,a0r E t=some (.val v):=by repeat(first|exact v0D|refine s0h rfl ?_)):G Γ E H X:=G.freezeRow i hi ts ht k
theorem RelS.setSame {R:Nat→Prop}{W:World}(h:RelS Γ R H W){i:Nat}{e e':HE}(hi:H[i]? =some e)(hf: ∀b,e'.foot b→e.foot b)(hok:e'.ok R W):RelS Γ R (H.set i e') W:=
 h.setEntry hi (Mods.refl _ _) (fun b hb=> .inl (hf b hb)) hok
theorem G.openRow {X:Act→World→Prop}(i:Nat){v:Value}{T sz n:Nat}{xs:List AV}(hi:H[i]? =some (.row v T sz n xs))(hn:0<n)
  (k: ∀b cap,n≤cap→cap≤maxLen→xs.length=n*sz→v= .slice (some ⟨b,0,none⟩) n cap→G Γ E (H.set i (.blk b T (cap*sz) xs)) X):G Γ E H X:=fun R a W hs ha=>by
 have hmem:=List.mem_of_getElem? hi
 obtain⟨us,hown,hr⟩:=hs.ok _ hmem
 rcases hown.2 with⟨rfl,rfl⟩|⟨g,cap,cur,rfl,hbg,hg,h1,h2,h3,h4⟩
 ·omega
 ·have hl:xs.length=n*sz:=by rw[←hr.1,hown.1]
  refine k g cap h1 h2 hl rfl R a W (hs.setSame hi (fun b hb=> ?_) ⟨us,cur,hg,h3,by rw[hl];exact h4,hr⟩) ha
  cases hb;rfl
theorem G.closeRow {X:Act→World→Prop}(i:Nat){b T room sz n cap:Nat}{xs:List AV}(hi:H[i]? =some (.blk b T room xs))(hl:xs.length=n*sz)(hr:cap*sz=room)(hn:n≤cap)(hc:cap≤maxLen)
  (k:G Γ E (H.set i (.row (.slice (some ⟨b,0,none⟩) n cap) T sz n xs)) X):G Γ E H X:=fun R a W hs ha=>by
 have hmem:=List.mem_of_getElem? hi
 obtain⟨us,cs,hb,hsz,ht,hrl⟩:=hs.ok _ hmem
 refine k R a W (hs.setSame hi (fun c hc=> ?_) ⟨us,⟨by rw[hrl.1,hl],.inr ⟨b,cap,cs,rfl,Nat.zero_le _,hb,hn,hc,by omega,by rw[←hl];exact ht⟩⟩,hrl⟩) ha
 have:some b=some c:=hc
 cases this;rfl
theorem xT {X:Act→World→Prop}(b:Nat){T room sz:Nat}(n:Nat)(cap:Nat){xs:List AV}(i:Nat)(hi:H[i]? =some (.blk b T room xs))(hl:xs.length=n*sz)(hr:cap*sz=room)(hn:n≤cap)(k:G Γ E (H.set i (.row (.slice (some ⟨b,0,none⟩) n cap) T sz n xs)) X)(hc:cap≤maxLen:=by(unfold maxLen;omega)):G Γ E H X:=G.closeRow (b:=b) (n:=n) (cap:=cap) i hi hl hr hn hc k
theorem G.nilRow {X:Act→World→Prop}(T sz:Nat)(k:G Γ E (.row (.slice none 0 0) T sz 0 []::H) X):G Γ E H X:=fun R a W hs ha=>
 k R a W ⟨hs.mods,hs.rlt,hs.rsub,hs.rnew,fun e he=>by
   rcases List.mem_cons.1 he with rfl|he
   ·exact⟨[],World.ownsRow_nil ..,RelL.nil⟩
   ·exact hs.ok e he,fun e he b hb=>by
   rcases List.mem_cons.1 he with rfl|he
   ·cases hb
   ·exact hs.own e he b hb,List.pairwise_cons.2 ⟨fun f _ b hb=>(by cases hb),hs.disj⟩⟩ ha
theorem G.lenRo {X:Act→World→Prop}{t:Nat}{full:Bool}{n:Nat}{xs:List AV}(ht:a0r E t=some (.ro full n xs))(k:n≤maxLen→G Γ E H X):G Γ E H X:=fun R a W hs ha=>by
 have:=ha.slots t _ ht
 generalize a.eval (.tmp t)=u at*
 cases this with
 |emp _ _ _ _ _=>exact k (Nat.zero_le _) R a W hs ha
 |ro _ _ _ b off cap us hb hc hr h1 h2 h3=>exact k (by omega) R a W hs ha
def y0w (b:Nat)(xs:List AV)(E:Env)(p:Nat×AV):Prop:=
 (∃o,a0r E p.1=some (.val (.pointer (some ⟨b,o,none⟩)))∧p.2= .rp xs o)∨
 (∃n cap,a0r E p.1=some (.val (.slice (some ⟨b,0,none⟩) n cap))∧p.2= .ro (Nat.beq n cap) n xs∧n≤cap∧cap≤maxLen)
theorem G.freezeBlk {X:Act→World→Prop}(i:Nat){b T room:Nat}{xs:List AV}(hi:H[i]? =some (.blk b T room xs))(E1:Env)(h1: ∀p∈E1,y0w b xs E p)(k:G Γ (E1++E) (H.eraseIdx i) X):G Γ E H X:=fun R a W hs ha=>by
 have hmem:=List.mem_of_getElem? hi
 obtain⟨hlt,he⟩:=List.getElem?_eq_some_iff.1 hi
 have hsub:(H.eraseIdx i).Sublist H:=List.eraseIdx_sublist _ _
 have hdis: ∀f∈H.eraseIdx i,∀c,f.foot c→ ¬c=b:=fun f hf c hb hb'=>by
  obtain⟨j,hj,rfl⟩:=List.getElem_of_mem hf
  rw[List.getElem_eraseIdx]at hb
  rw[List.length_eraseIdx,if_pos hlt]at hj
  split at hb
  ·exact(List.pairwise_iff_getElem.1 hs.disj j i (by omega) hlt (by omega)) c hb (by rw[he];exact hb')
  ·exact(List.pairwise_iff_getElem.1 hs.disj i (j+1) hlt (by omega) (by omega)) c (by rw[he];exact hb') hb
 have hRS: ∀c,R c→R c∨c=b:=fun b h=> .inl h
 obtain⟨us,cs,hb,hsz,ht,hr⟩:=hs.ok _ hmem
 have hcell: ∀j,j<xs.length→W.cell? ⟨b,j,none⟩=some (us.getD j undef):=fun j hj=>by
  have hj':j<us.length:=by rw[hr.1];exact hj
  rw[cell_of_row W b j cs T (0,0) hb]
  have:us[j]? =cs[j]? :=by rw[←ht,List.getElem?_take,if_pos hj];simp
  rw[←this];simp[List.getD,hj']
 refine k (fun c=>R c∨c=b) a W ⟨hs.mods,?_,fun b hb=> .inl (hs.rsub b hb),?_,fun e he=>HE.ok_mono hRS (fun _ _=>rfl) (Nat.le_refl _) (fun _ _=>rfl) (hs.ok e (hsub.subset he)),?_,hs.disj.sublist hsub⟩ ?_
 ·rintro c (hc|rfl)
  ·exact hs.rlt c hc
  ·exact HE.ok_lt (hs.ok _ hmem) rfl
 ·rintro c (hc|rfl)
  ·exact hs.rnew c hc
  ·exact .inr (hs.own _ hmem c rfl).1
 ·intro e he c hc
  refine⟨(hs.own e (hsub.subset he) c hc).1,?_⟩
  rintro(h|h)
  ·exact(hs.own e (hsub.subset he) c hc).2 h
  ·exact hdis e he c hc h
 ·have hA:RelA Γ.N (fun c=>R c∨c=b) W E a:=ha.mono hRS (fun _ _=>rfl)
  have hr':RelL (fun c=>R c∨c=b) W xs us:=hr.mono hRS (fun _ _=>rfl)
  have hV: ∀p∈E1,RelV (fun c=>R c∨c=b) W p.2 (a.eval (.tmp p.1)):=fun p hp=>by
   rcases h1 p hp with⟨o,h2,h3⟩|⟨n,cap,h2,h3,h4,h5⟩
   ·rw[h3,(hA.slots _ _ h2).val_inv]
    have:=RelV.rp (R:=fun c=>R c∨c=b) (W:=W) xs o b 0 (fun j=>us.getD j undef) (.inr rfl) (fun j hj=>by rw[Nat.zero_add];exact hcell j hj) hr'.2
    rwa [Nat.zero_add]at this
   ·rw[h3,(hA.slots _ _ h2).val_inv]
    refine .ro _ n xs b 0 cap (fun j=>us.getD j undef) (.inr rfl) (fun j hj=>by rw[Nat.zero_add];exact hcell j hj) hr'.2 h4 h5 (fun h=>(Nat.eq_of_beq_eq_true h).symm)
  clear k h1
  induction E1 with
  |nil=>exact hA
  | cons p E1 ih=>
   obtain⟨t,w0⟩:=p
   refine⟨hA.defers,hA.size,fun t' w hw=> ?_⟩
   simp only[cA]at hw
   unfold a0r at hw
   cases hb:Nat.beq t t' with
   |true=>
    rw[hb]at hw
    have:=Nat.eq_of_beq_eq_true hb
    subst this
    cases hw
    exact hV _ (List.mem_cons_self ..)
   |false=>
    rw[hb]at hw
    exact(ih fun p hp=>hV p (List.mem_cons_of_mem _ hp)).slots t' w hw
def a0E (H:List HE):Nat→Prop:=fun b=> ∃e∈H,e.foot b
def Sp (P:Program)(f:FuncId)(args:List AV)(H0:List HE)(Post:AV→List HE→Prop):Prop:=
 ∀(W:World) (R:Nat→Prop) (us:List Value),(∀b,R b→b<W.heap.size)→(∀e∈H0,e.ok R W∧ ∀b,e.foot b→ ¬R b)→H0.Pairwise Disj→RelL R W args us→
  Calls P f us.toArray W fun e W'=> ∃u r H' R',e= .returned u∧Post r H'∧RelS ⟨W,a0E H0,R,0⟩ R' H' W'∧RelV R' W' r u
theorem Sp.mono {f:FuncId}{args:List AV}{H0:List HE}{Post Post':AV→List HE→Prop}(h:Sp P f args H0 Post)(hp: ∀r H,Post r H→Post' r H):Sp P f args H0 Post':=fun W R us h1 h2 h3 h4=>
 (h W R us h1 h2 h3 h4).mono fun e W' ⟨u,r,H',R',h5,h6,h7,h8⟩=>⟨u,r,H',R',h5,hp _ _ h6,h7,h8⟩
def j0x:Nat→List AV→Env
 |_,[]=> []
 |k,v::r=>(k,v)::j0x (k+1) r
def FnQ (Γ:Cx)(P:Program)(fn:Func)(Post:AV→List HE→Prop):Exit→Act→World→Prop:=
 bodyPost P fn fun e W'=> ∃u r H' R',e= .returned u∧Post r H'∧RelS ⟨Γ.w0,Γ.S,Γ.R0,0⟩ R' H' W'∧RelV R' W' r u
theorem Sp.enter {f:FuncId}{args:List AV}{H0:List HE}{Post:AV→List HE→Prop}{fn:Func}{c:Code}(hf:P.funcs[f]? =some fn)(hb:fn.body=some c)(n:Nat)(hn:fn.ntmps=n)(hl:Nat.ble args.length n=true)
  (h: ∀w0 R0,AW ⟨w0,a0E H0,R0,n⟩ P (FnQ ⟨w0,a0E H0,R0,n⟩ P fn Post) c (j0x 0 args) H0):Sp P f args H0 Post:=fun W R us h1 h2 h3 h4=>by
 refine calls_of_wp hf hb (h W R R _ W ⟨Mods.refl _ _,h1,fun _ h=>h,fun _ h=> .inl h,fun e he=>(h2 e he).1,fun e he b hb=>⟨.inr ⟨e,he,hb⟩,(h2 e he).2 b hb⟩,h3⟩ ⟨rfl,?_,?_⟩)
 ·have:=lB hl
  have h5:=h4.1
  simp[hn];omega
 ·intro t v ht
  have key: ∀(args:List AV) (k:Nat),a0r (j0x k args) t=some v→k≤t∧args[t-k]? =some v:=by
   intro args
   induction args with
   |nil=>intro k h;cases h
   | cons x r ih=>
    intro k h
    unfold j0x a0r at h
    cases hb:Nat.beq k t with
    |true=>
     rw[hb]at h
     have:=Nat.eq_of_beq_eq_true hb
     subst this
     cases h
     exact⟨Nat.le_refl _,by simp⟩
    |false=>
     rw[hb]at h
     obtain⟨h5,h6⟩:=ih (k+1) h
     refine⟨by omega,?_⟩
     rw[show t-k=(t-(k+1))+1 by omega]
     simpa using h6
  obtain⟨_,h5⟩:=key args 0 ht
  obtain⟨u,h6,h7⟩:=h4.get (j:=t) (by simpa using h5)
  have ht':t<us.length:=(List.getElem?_eq_some_iff.1 h6).1
  have hu:us[t]=u:=(List.getElem?_eq_some_iff.1 h6).2
  have:Act.eval {tmps:=us.toArray++Array.replicate (fn.ntmps-us.toArray.size) undef,defers:= []} (.tmp t)=u:=by
   simp only[Act.eval,Array.getD]
   rw[dif_pos (by simp;omega)]
   simp[Array.getElem_append,ht',hu]
  rw[this];exact h7
theorem yX {f:FuncId}{args:List AV}{H0:List HE}{Post:AV→List HE→Prop}{fn:Func}{c:Code}(hf:P.funcs[f]? =some fn)(n:Nat)(hn:fn.ntmps=n)(h: ∀w0 R0,AW ⟨w0,a0E H0,R0,n⟩ P (FnQ ⟨w0,a0E H0,R0,n⟩ P fn Post) c (j0x 0 args) H0)(hb:fn.body=some c:=by exact rfl)(hl:Nat.ble args.length n=true:=by exact rfl):Sp P f args H0 Post:=Sp.enter hf hb n hn hl h
theorem AQ.ret1 {fn:Func}{Post:AV→List HE→Prop}{t:Nat}{r:AV}{H':List HE}(hr:fn.results= #[.tmp t])(ht:a0r E t=some r)(hH: ∃H1,H1.Sublist H∧H'.Perm H1)(hp:Post r H'):AQ Γ (FnQ Γ P fn Post) .ret E H:=fun R a W hs ha=>by
 obtain⟨H1,h1,h2⟩:=hH
 refine⟨ha.defers,a.eval (.tmp t),?_,_,r,H',R,rfl,hp,?_,ha.slots t r ht⟩
 ·simp[results,hr,Act.eval]
 ·have:=(hs.sub h1).perm h2
  exact⟨this.mods,this.rlt,this.rsub,this.rnew,this.ok,this.own,this.disj⟩
theorem yM {fn:Func}{Post:AV→List HE→Prop}{t:Nat}{r:AV}{H':List HE}(hr:fn.results= #[.tmp t]:=by exact rfl)(ht:a0r E t=some r:=by exact rfl)(hH: ∃H1,H1.Sublist H∧H'.Perm H1:=by exact nS)(hp:Post r H':=by exact(⟨rfl,rfl⟩)):AQ Γ (FnQ Γ P fn Post) .ret E H:=AQ.ret1 hr ht hH hp
theorem vz {fn:Func}{Post:AV→List HE→Prop}{t:Nat}{r:AV}{H':List HE}(hr:fn.results= #[.tmp t])(ht:a0r E t=some r)(hH: ∃H1,H1.Sublist H∧H'.Perm H1)(hp:Post r H'):AQ Γ (FnQ Γ P fn Post) .ret E H:=AQ.ret1 hr ht hH hp
theorem AQ.ret2 {fn:Func}{Post:AV→List HE→Prop}{t s:Nat}{r q:AV}{H':List HE}(hr:fn.results= #[.tmp t,.tmp s])(ht:a0r E t=some r)(hs':a0r E s=some q)(hH: ∃H1,H1.Sublist H∧H'.Perm H1)(hp:Post (.tup [r,q]) H'):AQ Γ (FnQ Γ P fn Post) .ret E H:=fun R a W hs ha=>by
 obtain⟨H1,h1,h2⟩:=hH
 refine⟨ha.defers,.tuple #[a.eval (.tmp t),a.eval (.tmp s)],?_,_,_,H',R,rfl,hp,?_,(RelL.cons (ha.slots t r ht) (RelL.cons (ha.slots s q hs') RelL.nil)).toTup⟩
 ·simp[results,hr,Act.eval]
 ·have:=(hs.sub h1).perm h2
  exact⟨this.mods,this.rlt,this.rsub,this.rnew,this.ok,this.own,this.disj⟩
theorem yV {fn:Func}{Post:AV→List HE→Prop}{t s:Nat}{r q:AV}{H':List HE}(hr:fn.results= #[.tmp t,.tmp s]:=by exact rfl)(ht:a0r E t=some r:=by exact rfl)(hs':a0r E s=some q:=by exact rfl)(hH: ∃H1,H1.Sublist H∧H'.Perm H1:=by exact nS)(hp:Post (.tup [r,q]) H':=by exact⟨rfl,rfl⟩):AQ Γ (FnQ Γ P fn Post) .ret E H:=AQ.ret2 hr ht hs' hH hp
theorem xS {fn:Func}{Post:AV→List HE→Prop}{t s:Nat}{r q:AV}{H':List HE}(hr:fn.results= #[.tmp t,.tmp s]:=by exact rfl)(ht:a0r E t=some r:=by exact rfl)(hs':a0r E s=some q:=by exact rfl)(hH: ∃H1,H1.Sublist H∧H'.Perm H1:=by exact nS)(hp:Post (.tup [r,q]) H':=by exact(⟨rfl,rfl⟩)):AQ Γ (FnQ Γ P fn Post) .ret E H:=AQ.ret2 hr ht hs' hH hp
theorem AQ.ret0 {fn:Func}{Post:AV→List HE→Prop}{H':List HE}(hr:fn.results= #[])(hH: ∃H1,H1.Sublist H∧H'.Perm H1)(hp:Post (.val (.tuple #[])) H'):AQ Γ (FnQ Γ P fn Post) .ret E H:=fun R a W hs ha=>by
 obtain⟨H1,h1,h2⟩:=hH
 refine⟨ha.defers,.tuple #[],?_,_,_,H',R,rfl,hp,?_,.val _⟩
 ·simp[results,hr]
 ·have:=(hs.sub h1).perm h2
  exact⟨this.mods,this.rlt,this.rsub,this.rnew,this.ok,this.own,this.disj⟩
theorem AQ.retN {fn:Func}{Post:AV→List HE→Prop}(h:AQ Γ (FnQ Γ P fn Post) .ret E H):AQ Γ (FnQ Γ P fn Post) .normal E H:=h
theorem AQ.retCell {fn:Func}{Post:AV→List HE→Prop}{t T k b T' room:Nat}{xs ys:List AV}{H':List HE}[hg:TyG P T true k](hr:fn.results= #[.cell t T])(ht:a0r E t=some (.val (.pointer (some ⟨b,0,none⟩))))(hm:HE.blk b T' room xs∈H)(hv:xs.take k=ys)(hk:ys.length=k)
  (hH: ∃H1,H1.Sublist H∧H'.Perm H1) (hp:Post (.agg ys) H'):AQ Γ (FnQ Γ P fn Post) .ret E H:=fun R a W hs ha=>by
 obtain⟨H1,h1,h2⟩:=hH
 obtain⟨us,cs,hb,hsz,hts,hrl⟩:=hs.ok _ hm
 have hrl:=hrl.take k
 rw[hv]at hrl
 have hl:=b0O hg W b 0 (us.take k) (by rw[hrl.1,hk]) (fun i u hi=>by
  rw[cell_of_row W b (0+i) cs T' (0,0) hb]
  rw[List.getElem?_take]at hi
  split at hi
  ·rw[←hts,List.getElem?_take]at hi
   split at hi
   ·simpa using hi
   ·cases hi
  ·cases hi)
 have hv':=(ha.slots t _ ht).val_inv
 refine⟨ha.defers,.agg (us.take k).toArray,?_,_,_,H',R,rfl,hp,?_,hrl.toAgg⟩
 ·have:a.tmps.getD t undef= .pointer (some ⟨b,0,none⟩):=hv'
  simp[results,hr]at*
  simp[this,asAddr,hl]
 ·have:=(hs.sub h1).perm h2
  exact⟨this.mods,this.rlt,this.rsub,this.rnew,this.ok,this.own,this.disj⟩
theorem wo {fn:Func}{Post:AV→List HE→Prop}{t T k b T' room:Nat}{xs ys:List AV}{H':List HE}(hr:fn.results= #[.cell t T]:=by exact rfl)(hg:TyG P T true k:=by infer_instance)(ht:a0r E t=some (.val (.pointer (some ⟨b,0,none⟩))):=by exact rfl)(hm:HE.blk b T' room xs∈H:=by repeat(exact List.Mem.head _))(hv:xs.take k=ys:=by(dsimp only[List.set,cA,cN,List.take,List.drop];done))(hk:ys.length=k:=by rfl)(hH: ∃H1,H1.Sublist H∧H'.Perm H1:=by exact nS)(hp:Post (.agg ys) H':=by exact⟨rfl,rfl⟩):AQ Γ (FnQ Γ P fn Post) .ret E H:=AQ.retCell hr ht hm hv hk hH hp
theorem e0y {R:Nat→Prop}{W W':World}{r:AV}{u:Value}{H':List HE}{R':Nat→Prop}(hs:RelS ⟨W,a0E [],R,0⟩ R' H' W')(hv:RelV R' W' r u)(h1: ∀b,R b→b<W.heap.size):Post1 R W r H' u W' R':=by
 have hno: ∀b,¬a0E [] b:=fun b ⟨e,he,_⟩=>by cases he
 refine⟨hs.mods.mono fun b _ hb=>(hno b hb).elim,hs.rsub,fun b hb=> ?_,hv,fun e he=>⟨hs.ok e he,fun b hb=> ?_⟩,hs.disj⟩
 ·rcases hs.rnew b hb with h|h|h
  ·exact .inl h
  ·exact .inr ⟨h,hs.rlt b hb⟩
  ·exact(hno b h).elim
 ·obtain⟨h2,h3⟩:=hs.own e he b hb
  exact⟨h2.resolve_right (hno b),h3⟩
theorem O.call {f:FuncId}{xs:List Operand}{ats:Array TypeId}{args:List AV}{Post:AV→List HE→Prop}{fn:Func}(ho:o.op= .call {callee:= .value (.func f),args:=xs.toArray,argTypes:=ats})(hfn:P.funcs[f]? =some fn)(hn:(fn.name== "runtime.NumGoroutine")=false)(hb:fn.body.isNone=false)
  (hx:evs E xs=some args) (h:Sp P f args [] Post):OpW P N o E H Post:=fun R a W h0 h2 h3 ha=>by
 unfold Oper.wp
 rw[b0P ho hfn hn hb,List.map_toArray]
 have hc:=h W R (xs.map a.eval) h0 (fun e he=>by cases he) .nil (ha.evs hx)
 refine Calls.mono hc ?_
 rintro e W' ⟨u,r,H',R',rfl,hP,hs,hv⟩
 exact⟨u,r,H',R',rfl,hP,e0y hs hv h0⟩
theorem xM {f:FuncId}{xs:List Operand}{ats:Array TypeId}{args:List AV}{Post:AV→List HE→Prop}{fn:Func}(ho:o.op= .call {callee:= .value (.func f),args:=xs.toArray,argTypes:=ats})(hfn:P.funcs[f]? =some fn)(hn:(fn.name== "runtime.NumGoroutine")=false)(hb:fn.body.isNone=false)(hx:evs E xs=some args)(h:Sp P f args [] Post):OpW P N o E H Post:=O.call ho hfn hn hb hx h
theorem O.callV {f:FuncId}{g:Operand}{xs:List Operand}{cap:List AV}{ats:Array TypeId}{args:List AV}{Post:AV→List HE→Prop}{fn:Func}(ho:o.op= .call {callee:= .value g,args:=xs.toArray,argTypes:=ats})(hg:ev E g=some (.fn (.func f) cap))(hfn:P.funcs[f]? =some fn)(hn:(fn.name== "runtime.NumGoroutine")=false)(hb:fn.body.isNone=false)
  (hx:evs E xs=some args) (h:Sp P f (args++cap) [] Post):OpW P N o E H Post:=fun R a W h0 h2 h3 ha=>by
 obtain⟨cs,h4,h5⟩:=(ha.ev hg).fn_inv
 have hrun:(execOp a.eval o).run P W= .ok (.enter f ((xs.map a.eval)++cs).toArray) W:=by
  simp[execOp,ho,resolve,Deferred.ofValue,h4,invoke,callFunc,hfn]
  rw[if_neg (by simpa using hn),if_neg (fun e=>by rw[e]at hb;cases hb)]
 unfold Oper.wp
 rw[hrun]
 have hc:=h W R (xs.map a.eval++cs) h0 (fun e he=>by cases he) .nil ((ha.evs hx).app h5)
 refine Calls.mono hc ?_
 rintro e W' ⟨u,r,H',R',rfl,hP,hs,hv⟩
 exact⟨u,r,H',R',rfl,hP,e0y hs hv h0⟩
theorem AO.callM {f:FuncId}{d:Nat}{xs:List Operand}{ats:Array TypeId}{args:List AV}{H0 H1:List HE}{Post:AV→List HE→Prop}{fn:Func}(ho:o.op= .call {callee:= .value (.func f),args:=xs.toArray,argTypes:=ats})(hgd:o.guard=none)(hfn:P.funcs[f]? =some fn)(hn:(fn.name== "runtime.NumGoroutine")=false)(hb:fn.body.isNone=false)
  (hx:evs E xs=some args) (hd:o.dst=some d) (hN:d<Γ.N) (hH:H.Perm (H0++H1)) (h:Sp P f args H0 Post) (next: ∀r H',Post r H'→AO Γ P ops Q rest ((d,r)::E) (H'++H1)):AO Γ P ops Q (o::rest) E H:=fun R a W hs ha=>by
 have hs0:=hs.perm hH.symm
 have hc:=h W R (xs.map a.eval) hs.rlt (fun e he=>⟨hs0.ok e (List.mem_append_left _ he),fun b hb=>(hs0.own e (List.mem_append_left _ he) b hb).2⟩) (List.pairwise_append.1 hs0.disj).1 (ha.evs hx)
 unfold wpList
 rw[if_pos (by unfold Region.wanted;rw[hgd])]
 refine .inl ?_
 unfold Oper.wp
 rw[b0P ho hfn hn hb,List.map_toArray]
 refine Calls.mono hc ?_
 rintro e W' ⟨u,r,H',R',rfl,hP,hs',hv⟩
 show wpList P ops Q rest (a.put o.dst u) W'
 rw[hd]
 have hS0: ∀b,a0E H0 b→Γ.w0.heap.size≤b∨Γ.S b:=fun b ⟨e,he,hb⟩=>(hs0.own e (List.mem_append_left _ he) b hb).1
 have hnR: ∀b,a0E H0 b→ ¬R b:=fun b ⟨e,he,hb⟩=>(hs0.own e (List.mem_append_left _ he) b hb).2
 have h1lt: ∀e∈H1,∀b,e.foot b→b<W.heap.size:=fun e he b hb=>HE.ok_lt (hs0.ok e (List.mem_append_right _ he)) hb
 have h10: ∀e∈H1,∀b,e.foot b→ ¬a0E H0 b:=fun e he b hb ⟨f,hf,hb'⟩=>(List.pairwise_append.1 hs0.disj).2.2 f hf e he b hb' hb
 have hR: ∀b,R b→W'.heap[b]? =W.heap[b]? :=fun b hb=>hs'.mods.block b (hs.rlt b hb) fun hh=>hnR b hh hb
 refine next r H' hP R' _ W' ⟨Mods.then hs.mods hs'.mods fun b hb hh=> ?_,hs'.rlt,fun b hb=>hs'.rsub b (hs.rsub b hb),fun b hb=> ?_,?_,?_,?_⟩ ((ha.mono hs'.rsub hR).put hN hv)
 ·rcases hS0 b hh with h|h
  ·omega
  ·exact h
 ·rcases hs'.rnew b hb with h|h|h
  ·exact hs.rnew b h
  ·exact .inr (.inl (Nat.le_trans hs.mods.size h))
  ·exact .inr (hS0 b h)
 ·intro e he
  rcases List.mem_append.1 he with he|he
  ·exact hs'.ok e he
  ·exact HE.ok_mono hs'.rsub hR hs'.mods.size (fun b hb=>hs'.mods.block b (h1lt e he b hb) (h10 e he b hb)) (hs0.ok e (List.mem_append_right _ he))
 ·intro e he b hb
  rcases List.mem_append.1 he with he|he
  ·obtain⟨h2,h3⟩:=hs'.own e he b hb
   refine⟨?_,h3⟩
   rcases h2 with h2|h2
   ·exact .inl (Nat.le_trans hs.mods.size h2)
   ·exact hS0 b h2
  ·refine⟨(hs0.own e (List.mem_append_right _ he) b hb).1,fun hr=> ?_⟩
   rcases hs'.rnew b hr with h|h|h
   ·exact(hs0.own e (List.mem_append_right _ he) b hb).2 h
   ·have h5:=h1lt e he b hb
    exact absurd h (by simpa using h5)
   ·exact h10 e he b hb h
 ·rw[List.pairwise_append]
  refine⟨hs'.disj,(List.pairwise_append.1 hs0.disj).2.1,fun e he f hf b hb hb'=> ?_⟩
  rcases(hs'.own e he b hb).1 with h|h
  ·have h5:=h1lt f hf b hb'
   exact absurd h (by simpa using h5)
  ·exact h10 f hf b hb' h
end
end Go.Proofs.YtojomcdjcpmnkaaGreat.A
namespace Go.Proofs.YtojomcdjcpmnkaaGreat.A
instance d2:TyD Tryz.prog 2 (.int .i64):=⟨Tryz.underlying2⟩
instance d3:TyD Tryz.prog 3 (.int .i64):=⟨Tryz.underlying3⟩
instance g3:TyG Tryz.prog 3 false 1:=⟨_,Tryz.t3,Tryz.underlying3,Tryz.type3,rfl,rfl⟩
instance d4:TyD Tryz.prog 4 (.bool):=⟨Tryz.underlying4⟩
instance g4:TyG Tryz.prog 4 false 1:=⟨_,Tryz.t4,Tryz.underlying4,Tryz.type4,rfl,rfl⟩
instance d5:TyD Tryz.prog 5 (.int .u8):=⟨Tryz.underlying5⟩
instance g5:TyG Tryz.prog 5 false 1:=⟨_,Tryz.t5,Tryz.underlying5,Tryz.type5,rfl,rfl⟩
instance d6:TyD Tryz.prog 6 (.int .u8):=⟨Tryz.underlying6⟩
instance d9:TyD Tryz.prog 9 (.string):=⟨Tryz.underlying9⟩
instance d10:TyD Tryz.prog 10 (.string):=⟨Tryz.underlying10⟩
instance d11:TyD Tryz.prog 11 (.string):=⟨Tryz.underlying11⟩
instance d12:TyD Tryz.prog 12 (.int .u64):=⟨Tryz.underlying12⟩
instance d15:TyD Tryz.prog 15 (.pointer 238):=⟨Tryz.underlying15⟩
instance d16:TyD Tryz.prog 16 (.pointer 241):=⟨Tryz.underlying16⟩
instance d17:TyD Tryz.prog 17 (.pointer 250):=⟨Tryz.underlying17⟩
instance d21:TyD Tryz.prog 21 (.int .i32):=⟨Tryz.underlying21⟩
instance d22:TyD Tryz.prog 22 (.slice 5):=⟨Tryz.underlying22⟩
instance g22:TyG Tryz.prog 22 false 1:=⟨_,Tryz.t22,Tryz.underlying22,Tryz.type22,rfl,rfl⟩
instance s22:TyS Tryz.prog 22 5 1 1 (.int .u8 0):=⟨Tryz.underlying22,Tryz.t5,Tryz.type5,rfl,rfl,rfl⟩
instance n24:TyN Tryz.prog 24 6 128 (.agg #[.slice none 0 0,.slice none 0 0,.bool false,.slice none 0 0,.slice none 0 0,.slice none 0 0]):=⟨Tryz.t24,Tryz.type24,rfl,rfl,rfl⟩
instance g24:TyG Tryz.prog 24 true 6:=⟨_,Tryz.t24,Tryz.underlying24,Tryz.type24,rfl,rfl⟩
instance y0s:TyF Tryz.prog 24 0 0:=⟨_,_,Tryz.t22,Tryz.underlying24,rfl,rfl,Tryz.type22,by decide⟩
instance y0r:TyF Tryz.prog 24 1 1:=⟨_,_,Tryz.t22,Tryz.underlying24,rfl,rfl,Tryz.type22,by decide⟩
instance y0q:TyF Tryz.prog 24 2 2:=⟨_,_,Tryz.t4,Tryz.underlying24,rfl,rfl,Tryz.type4,by decide⟩
instance y0p:TyF Tryz.prog 24 3 3:=⟨_,_,Tryz.t22,Tryz.underlying24,rfl,rfl,Tryz.type22,by decide⟩
instance y0o:TyF Tryz.prog 24 4 4:=⟨_,_,Tryz.t22,Tryz.underlying24,rfl,rfl,Tryz.type22,by decide⟩
instance y0n:TyF Tryz.prog 24 5 5:=⟨_,_,Tryz.t22,Tryz.underlying24,rfl,rfl,Tryz.type22,by decide⟩
instance b24:TyB Tryz.prog 24 [(0,1),(1,1),(2,1),(3,1),(4,1),(5,1)] (.agg #[.slice none 0 0,.slice none 0 0,.bool false,.slice none 0 0,.slice none 0 0,.slice none 0 0]):=⟨Tryz.t24,Tryz.type24,rfl,.inl ⟨_,Tryz.underlying24,rfl⟩⟩
instance n26:TyN Tryz.prog 26 9 200 (.agg #[.slice none 0 0,.slice none 0 0,.bool false,.slice none 0 0,.slice none 0 0,.slice none 0 0,.slice none 0 0,.slice none 0 0,.slice none 0 0]):=⟨Tryz.t26,Tryz.type26,rfl,rfl,rfl⟩
instance g26:TyG Tryz.prog 26 true 9:=⟨_,Tryz.t26,Tryz.underlying26,Tryz.type26,rfl,rfl⟩
instance y0m:TyF Tryz.prog 26 0 0:=⟨_,_,Tryz.t24,Tryz.underlying26,rfl,rfl,Tryz.type24,by decide⟩
instance y0l:TyF Tryz.prog 26 1 6:=⟨_,_,Tryz.t22,Tryz.underlying26,rfl,rfl,Tryz.type22,by decide⟩
instance y0k:TyF Tryz.prog 26 2 7:=⟨_,_,Tryz.t22,Tryz.underlying26,rfl,rfl,Tryz.type22,by decide⟩
instance y0j:TyF Tryz.prog 26 3 8:=⟨_,_,Tryz.t22,Tryz.underlying26,rfl,rfl,Tryz.type22,by decide⟩
instance b26:TyB Tryz.prog 26 [(0,6),(6,1),(7,1),(8,1)] (.agg #[.slice none 0 0,.slice none 0 0,.bool false,.slice none 0 0,.slice none 0 0,.slice none 0 0,.slice none 0 0,.slice none 0 0,.slice none 0 0]):=⟨Tryz.t26,Tryz.type26,rfl,.inl ⟨_,Tryz.underlying26,rfl⟩⟩
instance d27:TyD Tryz.prog 27 (.slice 96):=⟨Tryz.underlying27⟩
instance g27:TyG Tryz.prog 27 false 1:=⟨_,Tryz.t27,Tryz.underlying27,Tryz.type27,rfl,rfl⟩
instance s27:TyS Tryz.prog 27 96 2 32 (.agg #[.int .i64 0,.slice none 0 0]):=⟨Tryz.underlying27,Tryz.t96,Tryz.type96,rfl,rfl,rfl⟩
instance n29:TyN Tryz.prog 29 6 96 (.agg #[.int .i64 0,.int .i64 0,.int .i64 0,.slice none 0 0,.slice none 0 0,.slice none 0 0]):=⟨Tryz.t29,Tryz.type29,rfl,rfl,rfl⟩
instance g29:TyG Tryz.prog 29 true 6:=⟨_,Tryz.t29,Tryz.underlying29,Tryz.type29,rfl,rfl⟩
instance y0i:TyF Tryz.prog 29 0 0:=⟨_,_,Tryz.t3,Tryz.underlying29,rfl,rfl,Tryz.type3,by decide⟩
instance y0h:TyF Tryz.prog 29 1 1:=⟨_,_,Tryz.t3,Tryz.underlying29,rfl,rfl,Tryz.type3,by decide⟩
instance y0g:TyF Tryz.prog 29 2 2:=⟨_,_,Tryz.t3,Tryz.underlying29,rfl,rfl,Tryz.type3,by decide⟩
instance y0f:TyF Tryz.prog 29 3 3:=⟨_,_,Tryz.t22,Tryz.underlying29,rfl,rfl,Tryz.type22,by decide⟩
instance y0e:TyF Tryz.prog 29 4 4:=⟨_,_,Tryz.t27,Tryz.underlying29,rfl,rfl,Tryz.type27,by decide⟩
instance y0d:TyF Tryz.prog 29 5 5:=⟨_,_,Tryz.t22,Tryz.underlying29,rfl,rfl,Tryz.type22,by decide⟩
instance b29:TyB Tryz.prog 29 [(0,1),(1,1),(2,1),(3,1),(4,1),(5,1)] (.agg #[.int .i64 0,.int .i64 0,.int .i64 0,.slice none 0 0,.slice none 0 0,.slice none 0 0]):=⟨Tryz.t29,Tryz.type29,rfl,.inl ⟨_,Tryz.underlying29,rfl⟩⟩
instance d30:TyD Tryz.prog 30 (.slice 3):=⟨Tryz.underlying30⟩
instance g30:TyG Tryz.prog 30 false 1:=⟨_,Tryz.t30,Tryz.underlying30,Tryz.type30,rfl,rfl⟩
instance s30:TyS Tryz.prog 30 3 1 8 (.int .i64 0):=⟨Tryz.underlying30,Tryz.t3,Tryz.type3,rfl,rfl,rfl⟩
instance d34:TyD Tryz.prog 34 (.pointer 101):=⟨Tryz.underlying34⟩
instance d39:TyD Tryz.prog 39 (.slice 26):=⟨Tryz.underlying39⟩
instance s39:TyS Tryz.prog 39 26 9 200 (.agg #[.slice none 0 0,.slice none 0 0,.bool false,.slice none 0 0,.slice none 0 0,.slice none 0 0,.slice none 0 0,.slice none 0 0,.slice none 0 0]):=⟨Tryz.underlying39,Tryz.t26,Tryz.type26,rfl,rfl,rfl⟩
instance d40:TyD Tryz.prog 40 (.slice 29):=⟨Tryz.underlying40⟩
instance s40:TyS Tryz.prog 40 29 6 96 (.agg #[.int .i64 0,.int .i64 0,.int .i64 0,.slice none 0 0,.slice none 0 0,.slice none 0 0]):=⟨Tryz.underlying40,Tryz.t29,Tryz.type29,rfl,rfl,rfl⟩
instance n42:TyN Tryz.prog 42 3 56 (.agg #[.slice none 0 0,.slice none 0 0,.int .i64 0]):=⟨Tryz.t42,Tryz.type42,rfl,rfl,rfl⟩
instance g42:TyG Tryz.prog 42 true 3:=⟨_,Tryz.t42,Tryz.underlying42,Tryz.type42,rfl,rfl⟩
instance y0c:TyF Tryz.prog 42 0 0:=⟨_,_,Tryz.t22,Tryz.underlying42,rfl,rfl,Tryz.type22,by decide⟩
instance y0b:TyF Tryz.prog 42 1 1:=⟨_,_,Tryz.t22,Tryz.underlying42,rfl,rfl,Tryz.type22,by decide⟩
instance y0a:TyF Tryz.prog 42 2 2:=⟨_,_,Tryz.t3,Tryz.underlying42,rfl,rfl,Tryz.type3,by decide⟩
instance b42:TyB Tryz.prog 42 [(0,1),(1,1),(2,1)] (.agg #[.slice none 0 0,.slice none 0 0,.int .i64 0]):=⟨Tryz.t42,Tryz.type42,rfl,.inl ⟨_,Tryz.underlying42,rfl⟩⟩
instance d43:TyD Tryz.prog 43 (.int .i64):=⟨Tryz.underlying43⟩
instance d50:TyD Tryz.prog 50 (.slice 22):=⟨Tryz.underlying50⟩
instance s50:TyS Tryz.prog 50 22 1 24 (.slice none 0 0):=⟨Tryz.underlying50,Tryz.t22,Tryz.type22,rfl,rfl,rfl⟩
instance n52:TyN Tryz.prog 52 6 80 (.agg #[.int .i64 0,.bool false,.slice none 0 0,.bool false,.slice none 0 0,.bool false]):=⟨Tryz.t52,Tryz.type52,rfl,rfl,rfl⟩
instance g52:TyG Tryz.prog 52 true 6:=⟨_,Tryz.t52,Tryz.underlying52,Tryz.type52,rfl,rfl⟩
instance x0Z:TyF Tryz.prog 52 0 0:=⟨_,_,Tryz.t3,Tryz.underlying52,rfl,rfl,Tryz.type3,by decide⟩
instance x0Y:TyF Tryz.prog 52 1 1:=⟨_,_,Tryz.t4,Tryz.underlying52,rfl,rfl,Tryz.type4,by decide⟩
instance x0X:TyF Tryz.prog 52 2 2:=⟨_,_,Tryz.t22,Tryz.underlying52,rfl,rfl,Tryz.type22,by decide⟩
instance x0W:TyF Tryz.prog 52 3 3:=⟨_,_,Tryz.t4,Tryz.underlying52,rfl,rfl,Tryz.type4,by decide⟩
instance x0V:TyF Tryz.prog 52 4 4:=⟨_,_,Tryz.t22,Tryz.underlying52,rfl,rfl,Tryz.type22,by decide⟩
instance x0U:TyF Tryz.prog 52 5 5:=⟨_,_,Tryz.t4,Tryz.underlying52,rfl,rfl,Tryz.type4,by decide⟩
instance b52:TyB Tryz.prog 52 [(0,1),(1,1),(2,1),(3,1),(4,1),(5,1)] (.agg #[.int .i64 0,.bool false,.slice none 0 0,.bool false,.slice none 0 0,.bool false]):=⟨Tryz.t52,Tryz.type52,rfl,.inl ⟨_,Tryz.underlying52,rfl⟩⟩
instance d60:TyD Tryz.prog 60 (.slice 42):=⟨Tryz.underlying60⟩
instance d78:TyD Tryz.prog 78 (.slice 66):=⟨Tryz.underlying78⟩
instance d88:TyD Tryz.prog 88 (.int .u64):=⟨Tryz.underlying88⟩
instance g88:TyG Tryz.prog 88 false 1:=⟨_,Tryz.t88,Tryz.underlying88,Tryz.type88,rfl,rfl⟩
instance n90:TyN Tryz.prog 90 4 32 (.agg #[.int .i64 0,.int .i64 0,.int .u64 0,.bool false]):=⟨Tryz.t90,Tryz.type90,rfl,rfl,rfl⟩
instance g90:TyG Tryz.prog 90 true 4:=⟨_,Tryz.t90,Tryz.underlying90,Tryz.type90,rfl,rfl⟩
instance x0T:TyF Tryz.prog 90 1 1:=⟨_,_,Tryz.t3,Tryz.underlying90,rfl,rfl,Tryz.type3,by decide⟩
instance x0S:TyF Tryz.prog 90 3 3:=⟨_,_,Tryz.t4,Tryz.underlying90,rfl,rfl,Tryz.type4,by decide⟩
instance b90:TyB Tryz.prog 90 [(0,1),(1,1),(2,1),(3,1)] (.agg #[.int .i64 0,.int .i64 0,.int .u64 0,.bool false]):=⟨Tryz.t90,Tryz.type90,rfl,.inl ⟨_,Tryz.underlying90,rfl⟩⟩
instance n96:TyN Tryz.prog 96 2 32 (.agg #[.int .i64 0,.slice none 0 0]):=⟨Tryz.t96,Tryz.type96,rfl,rfl,rfl⟩
instance g96:TyG Tryz.prog 96 true 2:=⟨_,Tryz.t96,Tryz.underlying96,Tryz.type96,rfl,rfl⟩
instance x0R:TyF Tryz.prog 96 0 0:=⟨_,_,Tryz.t3,Tryz.underlying96,rfl,rfl,Tryz.type3,by decide⟩
instance x0Q:TyF Tryz.prog 96 1 1:=⟨_,_,Tryz.t22,Tryz.underlying96,rfl,rfl,Tryz.type22,by decide⟩
instance b96:TyB Tryz.prog 96 [(0,1),(1,1)] (.agg #[.int .i64 0,.slice none 0 0]):=⟨Tryz.t96,Tryz.type96,rfl,.inl ⟨_,Tryz.underlying96,rfl⟩⟩
instance x0C:TyF Tryz.prog 101 0 0:=⟨_,_,Tryz.t30,Tryz.underlying101,rfl,rfl,Tryz.type30,by decide⟩
instance x0B:TyF Tryz.prog 101 1 1:=⟨_,_,Tryz.t3,Tryz.underlying101,rfl,rfl,Tryz.type3,by decide⟩
instance z0K:TyB Tryz.prog 101 [(0,1),(1,1)] (.agg #[.slice none 0 0,.int .i64 0]):=⟨Tryz.t101,Tryz.type101,rfl,.inl ⟨_,Tryz.underlying101,rfl⟩⟩
instance z0D:TyD Tryz.prog 119 (.slice 75):=⟨Tryz.underlying119⟩
instance z0C:TyD Tryz.prog 145 (.slice 147):=⟨Tryz.underlying145⟩
instance z0l:TyG Tryz.prog 145 false 1:=⟨_,Tryz.t145,Tryz.underlying145,Tryz.type145,rfl,rfl⟩
instance y0C:TyS Tryz.prog 145 147 4 64 (.agg #[.int .i64 0,.int .u64 0,.slice none 0 0,.slice none 0 0]):=⟨Tryz.underlying145,Tryz.t147,Tryz.type147,rfl,rfl,rfl⟩
instance y0O:TyN Tryz.prog 147 4 64 (.agg #[.int .i64 0,.int .u64 0,.slice none 0 0,.slice none 0 0]):=⟨Tryz.t147,Tryz.type147,rfl,rfl,rfl⟩
instance z0k:TyG Tryz.prog 147 true 4:=⟨_,Tryz.t147,Tryz.underlying147,Tryz.type147,rfl,rfl⟩
instance x0A:TyF Tryz.prog 147 0 0:=⟨_,_,Tryz.t3,Tryz.underlying147,rfl,rfl,Tryz.type3,by decide⟩
instance x0z:TyF Tryz.prog 147 1 1:=⟨_,_,Tryz.t88,Tryz.underlying147,rfl,rfl,Tryz.type88,by decide⟩
instance x0y:TyF Tryz.prog 147 2 2:=⟨_,_,Tryz.t22,Tryz.underlying147,rfl,rfl,Tryz.type22,by decide⟩
instance x0x:TyF Tryz.prog 147 3 3:=⟨_,_,Tryz.t145,Tryz.underlying147,rfl,rfl,Tryz.type145,by decide⟩
instance z0J:TyB Tryz.prog 147 [(0,1),(1,1),(2,1),(3,1)] (.agg #[.int .i64 0,.int .u64 0,.slice none 0 0,.slice none 0 0]):=⟨Tryz.t147,Tryz.type147,rfl,.inl ⟨_,Tryz.underlying147,rfl⟩⟩
instance z0B:TyD Tryz.prog 158 (.int .u64):=⟨Tryz.underlying158⟩
instance z0A:TyD Tryz.prog 169 (.pointer 188):=⟨Tryz.underlying169⟩
instance z0j:TyG Tryz.prog 169 false 1:=⟨_,Tryz.t169,Tryz.underlying169,Tryz.type169,rfl,rfl⟩
instance z0z:TyD Tryz.prog 171 (.array 16 5):=⟨Tryz.underlying171⟩
instance y0N:TyN Tryz.prog 171 16 16 (.agg #[.int .u8 0,.int .u8 0,.int .u8 0,.int .u8 0,.int .u8 0,.int .u8 0,.int .u8 0,.int .u8 0,.int .u8 0,.int .u8 0,.int .u8 0,.int .u8 0,.int .u8 0,.int .u8 0,.int .u8 0,.int .u8 0]):=⟨Tryz.t171,Tryz.type171,rfl,rfl,rfl⟩
instance z0i:TyG Tryz.prog 171 true 16:=⟨_,Tryz.t171,Tryz.underlying171,Tryz.type171,rfl,rfl⟩
instance y0X:TyL Tryz.prog 171 16 1:=⟨5,Tryz.t5,Tryz.underlying171,Tryz.type5,rfl⟩
instance z0I:TyB Tryz.prog 171 [(0,1),(1,1),(2,1),(3,1),(4,1),(5,1),(6,1),(7,1),(8,1),(9,1),(10,1),(11,1),(12,1),(13,1),(14,1),(15,1)] (.agg #[.int .u8 0,.int .u8 0,.int .u8 0,.int .u8 0,.int .u8 0,.int .u8 0,.int .u8 0,.int .u8 0,.int .u8 0,.int .u8 0,.int .u8 0,.int .u8 0,.int .u8 0,.int .u8 0,.int .u8 0,.int .u8 0]):=⟨Tryz.t171,Tryz.type171,rfl,.inr ⟨16,5,Tryz.t5,Tryz.underlying171,Tryz.type5,rfl⟩⟩
instance z0y:TyD Tryz.prog 181 (.array 256 5):=⟨Tryz.underlying181⟩
instance y0M:TyN Tryz.prog 181 256 256 (.agg ⟨List.replicate 256 (.int .u8 0)⟩):=⟨Tryz.t181,Tryz.type181,rfl,rfl,by kernel_rfl⟩
instance z0h:TyG Tryz.prog 181 true 256:=⟨_,Tryz.t181,Tryz.underlying181,Tryz.type181,rfl,rfl⟩
instance y0W:TyL Tryz.prog 181 256 1:=⟨5,Tryz.t5,Tryz.underlying181,Tryz.type5,rfl⟩
instance z0g:TyG Tryz.prog 183 true 512:=⟨_,Tryz.t183,Tryz.underlying183,Tryz.type183,rfl,rfl⟩
instance x0w:TyF Tryz.prog 183 0 0:=⟨_,_,Tryz.t181,Tryz.underlying183,rfl,rfl,Tryz.type181,by decide⟩
instance x0v:TyF Tryz.prog 183 1 256:=⟨_,_,Tryz.t181,Tryz.underlying183,rfl,rfl,Tryz.type181,by decide⟩
instance z0x:TyD Tryz.prog 185 (.array 16 5):=⟨Tryz.underlying185⟩
instance y0L:TyN Tryz.prog 185 16 16 (.agg #[.int .u8 0,.int .u8 0,.int .u8 0,.int .u8 0,.int .u8 0,.int .u8 0,.int .u8 0,.int .u8 0,.int .u8 0,.int .u8 0,.int .u8 0,.int .u8 0,.int .u8 0,.int .u8 0,.int .u8 0,.int .u8 0]):=⟨Tryz.t185,Tryz.type185,rfl,rfl,rfl⟩
instance z0f:TyG Tryz.prog 185 true 16:=⟨_,Tryz.t185,Tryz.underlying185,Tryz.type185,rfl,rfl⟩
instance y0V:TyL Tryz.prog 185 16 1:=⟨5,Tryz.t5,Tryz.underlying185,Tryz.type5,rfl⟩
instance z0w:TyD Tryz.prog 186 (.array 11 185):=⟨Tryz.underlying186⟩
instance y0K:TyN Tryz.prog 186 176 176 (.agg ⟨List.replicate 176 (.int .u8 0)⟩):=⟨Tryz.t186,Tryz.type186,rfl,rfl,by kernel_rfl⟩
instance z0e:TyG Tryz.prog 186 true 176:=⟨_,Tryz.t186,Tryz.underlying186,Tryz.type186,rfl,rfl⟩
instance y0U:TyL Tryz.prog 186 11 16:=⟨185,Tryz.t185,Tryz.underlying186,Tryz.type185,rfl⟩
instance x0u:TyF Tryz.prog 188 0 0:=⟨_,_,Tryz.t183,Tryz.underlying188,rfl,rfl,Tryz.type183,by decide⟩
instance x0t:TyF Tryz.prog 188 1 512:=⟨_,_,Tryz.t186,Tryz.underlying188,rfl,rfl,Tryz.type186,by decide⟩
instance y0J:TyN Tryz.prog 204 2 32 (.agg #[.slice none 0 0,.bool false]):=⟨Tryz.t204,Tryz.type204,rfl,rfl,rfl⟩
instance z0d:TyG Tryz.prog 204 true 2:=⟨_,Tryz.t204,Tryz.underlying204,Tryz.type204,rfl,rfl⟩
instance x0s:TyF Tryz.prog 204 0 0:=⟨_,_,Tryz.t22,Tryz.underlying204,rfl,rfl,Tryz.type22,by decide⟩
instance x0r:TyF Tryz.prog 204 1 1:=⟨_,_,Tryz.t4,Tryz.underlying204,rfl,rfl,Tryz.type4,by decide⟩
instance z0H:TyB Tryz.prog 204 [(0,1),(1,1)] (.agg #[.slice none 0 0,.bool false]):=⟨Tryz.t204,Tryz.type204,rfl,.inl ⟨_,Tryz.underlying204,rfl⟩⟩
instance z0v:TyD Tryz.prog 206 (.int .u32):=⟨Tryz.underlying206⟩
instance z0c:TyG Tryz.prog 206 false 1:=⟨_,Tryz.t206,Tryz.underlying206,Tryz.type206,rfl,rfl⟩
instance z0u:TyD Tryz.prog 207 (.array 8 206):=⟨Tryz.underlying207⟩
instance y0I:TyN Tryz.prog 207 8 32 (.agg #[.int .u32 0,.int .u32 0,.int .u32 0,.int .u32 0,.int .u32 0,.int .u32 0,.int .u32 0,.int .u32 0]):=⟨Tryz.t207,Tryz.type207,rfl,rfl,rfl⟩
instance z0b:TyG Tryz.prog 207 true 8:=⟨_,Tryz.t207,Tryz.underlying207,Tryz.type207,rfl,rfl⟩
instance y0T:TyL Tryz.prog 207 8 1:=⟨206,Tryz.t206,Tryz.underlying207,Tryz.type206,rfl⟩
instance z0G:TyB Tryz.prog 207 [(0,1),(1,1),(2,1),(3,1),(4,1),(5,1),(6,1),(7,1)] (.agg #[.int .u32 0,.int .u32 0,.int .u32 0,.int .u32 0,.int .u32 0,.int .u32 0,.int .u32 0,.int .u32 0]):=⟨Tryz.t207,Tryz.type207,rfl,.inr ⟨8,206,Tryz.t206,Tryz.underlying207,Tryz.type206,rfl⟩⟩
instance z0t:TyD Tryz.prog 208 (.array 8 88):=⟨Tryz.underlying208⟩
instance y0H:TyN Tryz.prog 208 8 64 (.agg #[.int .u64 0,.int .u64 0,.int .u64 0,.int .u64 0,.int .u64 0,.int .u64 0,.int .u64 0,.int .u64 0]):=⟨Tryz.t208,Tryz.type208,rfl,rfl,rfl⟩
instance z0a:TyG Tryz.prog 208 true 8:=⟨_,Tryz.t208,Tryz.underlying208,Tryz.type208,rfl,rfl⟩
instance z0F:TyB Tryz.prog 208 [(0,1),(1,1),(2,1),(3,1),(4,1),(5,1),(6,1),(7,1)] (.agg #[.int .u64 0,.int .u64 0,.int .u64 0,.int .u64 0,.int .u64 0,.int .u64 0,.int .u64 0,.int .u64 0]):=⟨Tryz.t208,Tryz.type208,rfl,.inr ⟨8,88,Tryz.t88,Tryz.underlying208,Tryz.type88,rfl⟩⟩
instance z0s:TyD Tryz.prog 214 (.pointer 183):=⟨Tryz.underlying214⟩
instance z0r:TyD Tryz.prog 215 (.array 4 5):=⟨Tryz.underlying215⟩
instance y0G:TyN Tryz.prog 215 4 4 (.agg #[.int .u8 0,.int .u8 0,.int .u8 0,.int .u8 0]):=⟨Tryz.t215,Tryz.type215,rfl,rfl,rfl⟩
instance y0Z:TyG Tryz.prog 215 true 4:=⟨_,Tryz.t215,Tryz.underlying215,Tryz.type215,rfl,rfl⟩
instance y0S:TyL Tryz.prog 215 4 1:=⟨5,Tryz.t5,Tryz.underlying215,Tryz.type5,rfl⟩
instance z0E:TyB Tryz.prog 215 [(0,1),(1,1),(2,1),(3,1)] (.agg #[.int .u8 0,.int .u8 0,.int .u8 0,.int .u8 0]):=⟨Tryz.t215,Tryz.type215,rfl,.inr ⟨4,5,Tryz.t5,Tryz.underlying215,Tryz.type5,rfl⟩⟩
instance z0q:TyD Tryz.prog 217 (.pointer 186):=⟨Tryz.underlying217⟩
instance z0p:TyD Tryz.prog 218 (.pointer 185):=⟨Tryz.underlying218⟩
instance z0o:TyD Tryz.prog 223 (.pointer 204):=⟨Tryz.underlying223⟩
instance z0n:TyD Tryz.prog 226 (.array 80 88):=⟨Tryz.underlying226⟩
instance y0F:TyN Tryz.prog 226 80 640 (.agg ⟨List.replicate 80 (.int .u64 0)⟩):=⟨Tryz.t226,Tryz.type226,rfl,rfl,by kernel_rfl⟩
instance y0Y:TyG Tryz.prog 226 true 80:=⟨_,Tryz.t226,Tryz.underlying226,Tryz.type226,rfl,rfl⟩
instance y0R:TyL Tryz.prog 226 80 1:=⟨88,Tryz.t88,Tryz.underlying226,Tryz.type88,rfl⟩
instance z0m:TyD Tryz.prog 228 (.array 64 206):=⟨Tryz.underlying228⟩
instance y0E:TyN Tryz.prog 228 64 256 (.agg #[.int .u32 0,.int .u32 0,.int .u32 0,.int .u32 0,.int .u32 0,.int .u32 0,.int .u32 0,.int .u32 0,.int .u32 0,.int .u32 0,.int .u32 0,.int .u32 0,.int .u32 0,.int .u32 0,.int .u32 0,.int .u32 0,.int .u32 0,.int .u32 0,.int .u32 0,.int .u32 0,.int .u32 0,.int .u32 0,.int .u32 0,.int .u32 0,.int .u32 0,.int .u32 0,.int .u32 0,.int .u32 0,.int .u32 0,.int .u32 0,.int .u32 0,.int .u32 0,.int .u32 0,.int .u32 0,.int .u32 0,.int .u32 0,.int .u32 0,.int .u32 0,.int .u32 0,.int .u32 0,.int .u32 0,.int .u32 0,.int .u32 0,.int .u32 0,.int .u32 0,.int .u32 0,.int .u32 0,.int .u32 0,.int .u32 0,.int .u32 0,.int .u32 0,.int .u32 0,.int .u32 0,.int .u32 0,.int .u32 0,.int .u32 0,.int .u32 0,.int .u32 0,.int .u32 0,.int .u32 0,.int .u32 0,.int .u32 0,.int .u32 0,.int .u32 0]):=⟨Tryz.t228,Tryz.type228,rfl,rfl,rfl⟩
instance y0Q:TyL Tryz.prog 228 64 1:=⟨206,Tryz.t206,Tryz.underlying228,Tryz.type206,rfl⟩
instance y0D:TyN Tryz.prog 234 255 255 (.agg ⟨List.replicate 255 (.int .u8 0)⟩):=⟨Tryz.t234,Tryz.type234,rfl,rfl,by kernel_rfl⟩
instance y0P:TyL Tryz.prog 234 255 1:=⟨5,Tryz.t5,Tryz.underlying234,Tryz.type5,rfl⟩
end Go.Proofs.YtojomcdjcpmnkaaGreat.A
namespace Go.Proofs.YtojomcdjcpmnkaaGreat.A
open Go.RowKit L
section
variable {Γ:Cx}{P:Program}{Q:Exit→Act→World→Prop}{E:Env}{H:List HE}{N:Nat}{o:Oper}{ops:Array Oper}{rest:List Oper}
theorem AO.opB {d T room:Nat}{v:Nat→AV}{xs:List AV}(h:OpW P Γ.N o E H (b0j v T room xs))(hw:a0f ops E o=some true)(hd:o.dst=some d)(hN:Nat.ble (d+1) Γ.N=true)(k: ∀b,AO Γ P ops Q rest ((d,v b)::E) (.blk b T room xs::H)):
  AO Γ P ops Q (o::rest) E H:=AO.opN h hw hd hN (by rintro _ _ ⟨b,rfl,rfl⟩;exact k b)
theorem zd {d T room:Nat}{v:Nat→AV}{xs:List AV}(k: ∀b,AO Γ P ops Q rest ((d,v b)::E) (.blk b T room xs::H))(h:OpW P Γ.N o E H (b0j v T room xs):=by exact(O.alloc rfl (by(dsimp only[a0x,List.replicate,List.append,List.flatten,AV.cells,Value.cells,List.toList_toArray,List.map];done)) (by rfl)))(hw:vS ops E o d Γ.N:=by exact⟨rfl,rfl,rfl⟩):AO Γ P ops Q (o::rest) E H:=AO.opB h hw.1 hw.2.1 hw.2.2 k
theorem zR {d T room:Nat}{v:Nat→AV}{xs:List AV}(k: ∀b,AO Γ P ops Q rest ((d,v b)::E) (.blk b T room xs::H))(h:OpW P Γ.N o E H (b0j v T room xs):=by exact(O.buildSlice rfl rfl rfl (by rfl) (by rfl) (by rfl) (by rfl)))(hw:vS ops E o d Γ.N:=by exact⟨rfl,rfl,rfl⟩):AO Γ P ops Q (o::rest) E H:=AO.opB h hw.1 hw.2.1 hw.2.2 k
theorem yh {d T room:Nat}{v:Nat→AV}{xs:List AV}(k: ∀b,AO Γ P ops Q rest ((d,v b)::E) (.blk b T room xs::H))(h:OpW P Γ.N o E H (b0j v T room xs):=by exact(O.alloc rfl (by(dsimp only[List.set,List.append,cA,cN,a0w,a0v,a0y,a0e,a0A,AV.cells,List.map,List.map_cons,List.map_nil,List.take,List.drop,Nat.zero_add,Nat.add_zero,Nat.reduceAdd,Nat.reduceMul,Nat.zero_mul,Value.cells,List.toList_toArray,a0x,List.replicate,List.flatten,cP];done)) (by rfl)))(hw:vS ops E o d Γ.N:=by exact⟨rfl,rfl,rfl⟩):AO Γ P ops Q (o::rest) E H:=AO.opB h hw.1 hw.2.1 hw.2.2 k
theorem yo {d T room:Nat}{v:Nat→AV}{xs:List AV}(k: ∀b,AO Γ P ops Q rest ((d,v b)::E) (.blk b T room xs::H))(h:OpW P Γ.N o E H (b0j v T room xs):=by exact(O.box rfl rfl rfl rfl rfl))(hw:vS ops E o d Γ.N:=by exact⟨rfl,rfl,rfl⟩):AO Γ P ops Q (o::rest) E H:=AO.opB h hw.1 hw.2.1 hw.2.2 k
theorem xy {d T room:Nat}{v:Nat→AV}{xs:List AV}(k: ∀b,AO Γ P ops Q rest ((d,v b)::E) (.blk b T room xs::H))(h:OpW P Γ.N o E H (b0j v T room xs):=by exact(O.buildSliceF rfl rfl rfl (by rfl) (by rfl) (by rfl) (by rfl) (by rfl)))(hw:vS ops E o d Γ.N:=by exact⟨rfl,rfl,rfl⟩):AO Γ P ops Q (o::rest) E H:=AO.opB h hw.1 hw.2.1 hw.2.2 k
theorem wz {d T room:Nat}{v:Nat→AV}{xs:List AV}(k: ∀b,AO Γ P ops Q rest ((d,v b)::E) (.blk b T room xs::H))(h:OpW P Γ.N o E H (b0j v T room xs):=by exact(O.alloc rfl (by exact f0O _) (by exact List.length_replicate)))(hw:vS ops E o d Γ.N:=by exact⟨rfl,rfl,rfl⟩):AO Γ P ops Q (o::rest) E H:=AO.opB h hw.1 hw.2.1 hw.2.2 k
theorem AO.opRow {d U k n:Nat}{xs:List AV}(h:OpW P Γ.N o E H (b0p U k n xs))(hw:a0f ops E o=some true)(hd:o.dst=some d)(hN:Nat.ble (d+1) Γ.N=true)(next: ∀v:Value,v.oneCell'=true→AO Γ P ops Q rest ((d,.val v)::E) (.row v U k n xs::H)):
  AO Γ P ops Q (o::rest) E H:=AO.opN h hw hd hN (by rintro _ _ ⟨v,rfl,hv,rfl⟩;exact next v hv)
theorem yH {d U k n:Nat}{xs:List AV}(next: ∀v:Value,v.oneCell'=true→AO Γ P ops Q rest ((d,.val v)::E) (.row v U k n xs::H))(h:OpW P Γ.N o E H (b0p U k n xs):=by exact(O.appendNil rfl (by rfl) (by rfl) rfl rfl (by exact SrcA.ro TyD.ax (by(simp;done)) (lB rfl)) (by(simp[AV.cells,AV.one, *];done)) (by(unfold maxLen;omega)) (by omega)))(hw:vS ops E o d Γ.N:=by exact⟨rfl,rfl,rfl⟩):AO Γ P ops Q (o::rest) E H:=AO.opRow h hw.1 hw.2.1 hw.2.2 next
theorem y4 {d U k n:Nat}{xs:List AV}(next: ∀v:Value,v.oneCell'=true→AO Γ P ops Q rest ((d,.val v)::E) (.row v U k n xs::H))(h:OpW P Γ.N o E H (b0p U k n xs):=by exact(O.appendNil rfl (by rfl) (by rfl) rfl rfl (by exact SrcA.ro TyD.ax (by(simp;done)) (lB rfl)) (by(simp[AV.cells,AV.one, *];done)) (by(unfold maxLen;simp only[List.length_take,List.length_drop,cH,cL,cE,List.length_set,Nat.zero_add];omega)) (by(simp only[List.length_take,List.length_drop,cH,cL,cE,List.length_set,Nat.zero_add];omega))))(hw:vS ops E o d Γ.N:=by exact⟨rfl,rfl,rfl⟩):AO Γ P ops Q (o::rest) E H:=AO.opRow h hw.1 hw.2.1 hw.2.2 next
theorem vR {d U k n:Nat}{xs:List AV}(h:OpW P Γ.N o E H (b0p U k n xs))(next: ∀v:Value,v.oneCell'=true→AO Γ P ops Q rest ((d,.val v)::E) (.row v U k n xs::H))(hw:vS ops E o d Γ.N:=by exact⟨rfl,rfl,rfl⟩):AO Γ P ops Q (o::rest) E H:=AO.opRow h hw.1 hw.2.1 hw.2.2 next
theorem AO.append' {T T2 U k bs d:Nat}{z:Value}{s x:Operand}{v:Value}{w:AV}{i n m:Nat}{xs ys zs:List AV}{H':Value→List HE}[hs:TyS P T U k bs z](ho:o.op= .call {callee:= .builtin .append,args:= #[s,x],argTypes:= #[T,T2]})(hgd:o.guard=none)(hd:o.dst=some d)(hN:Nat.ble (d+1) Γ.N=true)
  (hz:Nat.beq z.cells.size k=true) (hk:Nat.ble 1 k=true) (hv:ev E s=some (.val v)) (hx:ev E x=some w) (hi:H[i]? =some (.row v U k n xs)) (hsrc:SrcA P T2 k H w m ys) (hone:ys.all AV.one=true) (hn:n+m≤maxLen) (hby:(n+m)*bs≤140737488355328)
  (hzs:xs++ys=zs) (hH: ∀v',H.set i (.row v' U k (n+m) zs)=H' v')
  (next: ∀v':Value,v'.oneCell'=true→AO Γ P ops Q rest ((d,.val v')::E) (H' v')):AO Γ P ops Q (o::rest) E H:=
 AO.append ho hgd hd (lB hN) hz hk hv hx hi hsrc hone hn hby fun v' h=>by rw[hzs,hH];exact next v' h
theorem zy {T T2 U k bs d:Nat}{z:Value}{s x:Operand}{v:Value}{w:AV}(i:Nat){n m:Nat}{xs ys zs:List AV}{H':Value→List HE}(next: ∀v':Value,v'.oneCell'=true→AO Γ P ops Q rest ((d,.val v')::E) (H' v'))(ho:o.op= .call {callee:= .builtin .append,args:= #[s,x],argTypes:= #[T,T2]}:=by exact rfl)(hs:TyS P T U k bs z:=by infer_instance)(hgd:o.guard=none:=by exact rfl)(hd:o.dst=some d:=by exact rfl)(hN:Nat.ble (d+1) Γ.N=true:=by exact rfl)(hz:Nat.beq z.cells.size k=true:=by rfl)(hk:Nat.ble 1 k=true:=by rfl)(hv:ev E s=some (.val v):=by exact rfl)(hx:ev E x=some w:=by exact rfl)(hi:H[i]? =some (.row v U k n xs):=by exact rfl)(hsrc:SrcA P T2 k H w m ys:=by exact SrcA.ro TyD.ax (by rfl) (lB rfl))(hone:ys.all AV.one=true:=by rfl)(hn:n+m≤maxLen:=by(unfold maxLen;omega))(hby:(n+m)*bs≤140737488355328:=by omega)(hzs:xs++ys=zs:=by(dsimp only[List.set,cA,cN,List.take,List.drop];done))(hH: ∀v',H.set i (.row v' U k (n+m) zs)=H' v':=by exact(fun _=>by(dsimp only[List.set];done))):AO Γ P ops Q (o::rest) E H:=AO.append' (i:=i) ho hgd hd hN hz hk hv hx hi hsrc hone hn hby hzs hH next
theorem zF {T T2 U k bs d:Nat}{z:Value}{s x:Operand}{v:Value}{w:AV}(i:Nat){n m:Nat}{xs ys zs:List AV}{H':Value→List HE}(next: ∀v':Value,v'.oneCell'=true→AO Γ P ops Q rest ((d,.val v')::E) (H' v'))(ho:o.op= .call {callee:= .builtin .append,args:= #[s,x],argTypes:= #[T,T2]}:=by exact rfl)(hs:TyS P T U k bs z:=by infer_instance)(hgd:o.guard=none:=by exact rfl)(hd:o.dst=some d:=by exact rfl)(hN:Nat.ble (d+1) Γ.N=true:=by exact rfl)(hz:Nat.beq z.cells.size k=true:=by rfl)(hk:Nat.ble 1 k=true:=by rfl)(hv:ev E s=some (.val v):=by exact rfl)(hx:ev E x=some w:=by exact rfl)(hi:H[i]? =some (.row v U k n xs):=by exact rfl)(hsrc:SrcA P T2 k H w m ys:=by exact SrcA.ro TyD.ax (by(simp;done)) (lB rfl))(hone:ys.all AV.one=true:=by(simp[AV.cells,AV.one, *];done))(hn:n+m≤maxLen:=by(unfold maxLen;omega))(hby:(n+m)*bs≤140737488355328:=by omega)(hzs:xs++ys=zs:=by(dsimp only[List.set,cA,cN,List.take,List.drop];done))(hH: ∀v',H.set i (.row v' U k (n+m) zs)=H' v':=by exact(fun _=>by(dsimp only[List.set];done))):AO Γ P ops Q (o::rest) E H:=AO.append' (i:=i) ho hgd hd hN hz hk hv hx hi hsrc hone hn hby hzs hH next
theorem yq {T T2 U k bs d:Nat}{z:Value}{s x:Operand}{v:Value}{w:AV}(i:Nat){n m:Nat}{xs ys zs:List AV}{H':Value→List HE}(next: ∀v':Value,v'.oneCell'=true→AO Γ P ops Q rest ((d,.val v')::E) (H' v'))(ho:o.op= .call {callee:= .builtin .append,args:= #[s,x],argTypes:= #[T,T2]}:=by exact rfl)(hs:TyS P T U k bs z:=by infer_instance)(hgd:o.guard=none:=by exact rfl)(hd:o.dst=some d:=by exact rfl)(hN:Nat.ble (d+1) Γ.N=true:=by exact rfl)(hz:Nat.beq z.cells.size k=true:=by rfl)(hk:Nat.ble 1 k=true:=by rfl)(hv:ev E s=some (.val v):=by exact rfl)(hx:ev E x=some w:=by exact rfl)(hi:H[i]? =some (.row v U k n xs):=by exact rfl)(hsrc:SrcA P T2 k H w m ys:=by exact SrcA.ro TyD.ax (by rfl) (lB rfl))(hone:ys.all AV.one=true:=by rfl)(hn:n+m≤maxLen:=by(unfold maxLen;omega))(hby:(n+m)*bs≤140737488355328:=by omega)(hzs:xs++ys=zs:=by(dsimp only[List.set,List.append,cA,cN,a0e,a0A,AV.cells,List.map,List.map_cons,List.map_nil,List.take,List.drop,Nat.zero_add,Nat.add_zero,Nat.reduceAdd,Nat.reduceMul,Nat.zero_mul,Value.cells,List.toList_toArray,a0x,List.replicate,List.flatten,cP];done))(hH: ∀v',H.set i (.row v' U k (n+m) zs)=H' v':=by exact(fun _=>by(dsimp only[List.set];done))):AO Γ P ops Q (o::rest) E H:=AO.append' (i:=i) ho hgd hd hN hz hk hv hx hi hsrc hone hn hby hzs hH next
theorem yD {T T2 U k bs d:Nat}{z:Value}{s x:Operand}{v:Value}{w:AV}(i:Nat){n m:Nat}{xs ys zs:List AV}{H':Value→List HE}(next: ∀v':Value,v'.oneCell'=true→AO Γ P ops Q rest ((d,.val v')::E) (H' v'))(ho:o.op= .call {callee:= .builtin .append,args:= #[s,x],argTypes:= #[T,T2]}:=by exact rfl)(hs:TyS P T U k bs z:=by infer_instance)(hgd:o.guard=none:=by exact rfl)(hd:o.dst=some d:=by exact rfl)(hN:Nat.ble (d+1) Γ.N=true:=by exact rfl)(hz:Nat.beq z.cells.size k=true:=by rfl)(hk:Nat.ble 1 k=true:=by rfl)(hv:ev E s=some (.val v):=by exact rfl)(hx:ev E x=some w:=by exact rfl)(hi:H[i]? =some (.row v U k n xs):=by exact rfl)(hsrc:SrcA P T2 k H w m ys:=by exact SrcA.ro TyD.ax (by rfl) (lB rfl))(hone:ys.all AV.one=true:=by rfl)(hn:n+m≤maxLen:=by(unfold maxLen;omega))(hby:(n+m)*bs≤140737488355328:=by omega)(hzs:xs++ys=zs:=by(dsimp only[List.set,List.append,cA,cN,a0w,a0v,a0e,a0A,AV.cells,List.map,List.map_cons,List.map_nil,List.take,List.drop,Nat.zero_add,Nat.add_zero,Nat.reduceAdd,Nat.reduceMul,Nat.zero_mul,Value.cells,List.toList_toArray,a0x,List.replicate,List.flatten,cP];done))(hH: ∀v',H.set i (.row v' U k (n+m) zs)=H' v':=by exact(fun _=>by(dsimp only[List.set];done))):AO Γ P ops Q (o::rest) E H:=AO.append' (i:=i) ho hgd hd hN hz hk hv hx hi hsrc hone hn hby hzs hH next
theorem yP {T T2 U k bs d:Nat}{z:Value}{s x:Operand}{v:Value}{w:AV}(i:Nat){n m:Nat}{xs ys zs:List AV}{H':Value→List HE}(next: ∀v':Value,v'.oneCell'=true→AO Γ P ops Q rest ((d,.val v')::E) (H' v'))(ho:o.op= .call {callee:= .builtin .append,args:= #[s,x],argTypes:= #[T,T2]}:=by exact rfl)(hs:TyS P T U k bs z:=by infer_instance)(hgd:o.guard=none:=by exact rfl)(hd:o.dst=some d:=by exact rfl)(hN:Nat.ble (d+1) Γ.N=true:=by exact rfl)(hz:Nat.beq z.cells.size k=true:=by rfl)(hk:Nat.ble 1 k=true:=by rfl)(hv:ev E s=some (.val v):=by exact rfl)(hx:ev E x=some w:=by exact rfl)(hi:H[i]? =some (.row v U k n xs):=by exact rfl)(hsrc:SrcA P T2 k H w m ys:=by exact SrcA.ro TyD.ax (by(simp;done)) (lB rfl))(hone:ys.all AV.one=true:=by(simp[AV.cells,AV.one, *];done))(hn:n+m≤maxLen:=by(unfold maxLen;omega))(hby:(n+m)*bs≤140737488355328:=by omega)(hzs:xs++ys=zs:=by(dsimp only[List.set,List.append,cA,cN,a0e,a0A,AV.cells,List.map,List.map_cons,List.map_nil,List.take,List.drop,Nat.zero_add,Nat.add_zero,Nat.reduceAdd,Nat.reduceMul,Nat.zero_mul,Value.cells,List.toList_toArray,a0x,List.replicate,List.flatten,cP];done))(hH: ∀v',H.set i (.row v' U k (n+m) zs)=H' v':=by exact(fun _=>by(dsimp only[List.set];done))):AO Γ P ops Q (o::rest) E H:=AO.append' (i:=i) ho hgd hd hN hz hk hv hx hi hsrc hone hn hby hzs hH next
theorem y7 {T T2 U k bs d:Nat}{z:Value}{s x:Operand}{v:Value}{w:AV}(i:Nat){n m:Nat}{xs ys zs:List AV}{H':Value→List HE}(next: ∀v':Value,v'.oneCell'=true→AO Γ P ops Q rest ((d,.val v')::E) (H' v'))(ho:o.op= .call {callee:= .builtin .append,args:= #[s,x],argTypes:= #[T,T2]}:=by exact rfl)(hs:TyS P T U k bs z:=by infer_instance)(hgd:o.guard=none:=by exact rfl)(hd:o.dst=some d:=by exact rfl)(hN:Nat.ble (d+1) Γ.N=true:=by exact rfl)(hz:Nat.beq z.cells.size k=true:=by rfl)(hk:Nat.ble 1 k=true:=by rfl)(hv:ev E s=some (.val v):=by exact rfl)(hx:ev E x=some w:=by exact rfl)(hi:H[i]? =some (.row v U k n xs):=by exact rfl)(hsrc:SrcA P T2 k H w m ys:=by exact SrcA.ro TyD.ax (by rfl) (lB rfl))(hone:ys.all AV.one=true:=by rfl)(hn:n+m≤maxLen:=by(unfold maxLen;omega))(hby:(n+m)*bs≤140737488355328:=by omega)(hzs:xs++ys=zs:=by(dsimp only[List.set,List.append,cA,cN,a0w,a0v,a0y,a0e,a0A,AV.cells,List.map,List.map_cons,List.map_nil,List.take,List.drop,Nat.zero_add,Nat.add_zero,Nat.reduceAdd,Nat.reduceMul,Nat.zero_mul,Value.cells,List.toList_toArray,a0x,List.replicate,List.flatten,cP];done))(hH: ∀v',H.set i (.row v' U k (n+m) zs)=H' v':=by exact(fun _=>by(dsimp only[List.set];done))):AO Γ P ops Q (o::rest) E H:=AO.append' (i:=i) ho hgd hd hN hz hk hv hx hi hsrc hone hn hby hzs hH next
theorem xC {T T2 U k bs d:Nat}{z:Value}{s x:Operand}{v:Value}{w:AV}(i:Nat){n m:Nat}{xs ys zs:List AV}{H':Value→List HE}(next: ∀v':Value,v'.oneCell'=true→AO Γ P ops Q rest ((d,.val v')::E) (H' v'))(ho:o.op= .call {callee:= .builtin .append,args:= #[s,x],argTypes:= #[T,T2]}:=by exact rfl)(hs:TyS P T U k bs z:=by infer_instance)(hgd:o.guard=none:=by exact rfl)(hd:o.dst=some d:=by exact rfl)(hN:Nat.ble (d+1) Γ.N=true:=by exact rfl)(hz:Nat.beq z.cells.size k=true:=by rfl)(hk:Nat.ble 1 k=true:=by rfl)(hv:ev E s=some (.val v):=by exact rfl)(hx:ev E x=some w:=by exact rfl)(hi:H[i]? =some (.row v U k n xs):=by exact rfl)(hsrc:SrcA P T2 k H w m ys:=by exact SrcA.ro TyD.ax (by(simp;done)) (lB rfl))(hone:ys.all AV.one=true:=by(simp[AV.cells,AV.one, *];done))(hn:n+m≤maxLen:=by(unfold maxLen;simp only[List.length_take,List.length_drop,cH,cL,cE,List.length_set,Nat.zero_add];omega))(hby:(n+m)*bs≤140737488355328:=by(simp only[List.length_take,List.length_drop,cH,cL,cE,List.length_set,Nat.zero_add];omega))(hzs:xs++ys=zs:=by(dsimp only[List.set,cA,cN,List.take,List.drop];done))(hH: ∀v',H.set i (.row v' U k (n+m) zs)=H' v':=by exact(fun _=>by(dsimp only[List.set];done))):AO Γ P ops Q (o::rest) E H:=AO.append' (i:=i) ho hgd hd hN hz hk hv hx hi hsrc hone hn hby hzs hH next
theorem wV {T T2 U k bs d:Nat}{z:Value}{s x:Operand}{v:Value}{w:AV}(i:Nat){n m:Nat}{xs ys zs:List AV}{H':Value→List HE}(next: ∀v':Value,v'.oneCell'=true→AO Γ P ops Q rest ((d,.val v')::E) (H' v'))(ho:o.op= .call {callee:= .builtin .append,args:= #[s,x],argTypes:= #[T,T2]}:=by exact rfl)(hs:TyS P T U k bs z:=by infer_instance)(hgd:o.guard=none:=by exact rfl)(hd:o.dst=some d:=by exact rfl)(hN:Nat.ble (d+1) Γ.N=true:=by exact rfl)(hz:Nat.beq z.cells.size k=true:=by rfl)(hk:Nat.ble 1 k=true:=by rfl)(hv:ev E s=some (.val v):=by exact rfl)(hx:ev E x=some w:=by exact rfl)(hi:H[i]? =some (.row v U k n xs):=by exact rfl)(hsrc:SrcA P T2 k H w m ys:=by exact SrcA.blk TyD.ax mM (by(dsimp only[List.set,List.append,cA,cN,a0w,a0v,a0y,a0e,a0A,AV.cells,List.map,List.map_cons,List.map_nil,List.take,List.drop,Nat.zero_add,Nat.add_zero,Nat.reduceAdd,Nat.reduceMul,Nat.zero_mul,Value.cells,List.toList_toArray,a0x,List.replicate,List.flatten,cP];done)) (by(simp;omega)))(hone:ys.all AV.one=true:=by exact c0Z (b0R _) _ _)(hn:n+m≤maxLen:=by(unfold maxLen;omega))(hby:(n+m)*bs≤140737488355328:=by omega)(hzs:xs++ys=zs:=by(dsimp only[List.set,List.append,cA,cN,a0w,a0v,a0y,a0e,a0A,AV.cells,List.map,List.map_cons,List.map_nil,List.take,List.drop,Nat.zero_add,Nat.add_zero,Nat.reduceAdd,Nat.reduceMul,Nat.zero_mul,Value.cells,List.toList_toArray,a0x,List.replicate,List.flatten,cP];done))(hH: ∀v',H.set i (.row v' U k (n+m) zs)=H' v':=by exact(fun _=>by(dsimp only[List.set];done))):AO Γ P ops Q (o::rest) E H:=AO.append' (i:=i) ho hgd hd hN hz hk hv hx hi hsrc hone hn hby hzs hH next
theorem e0J {x:Int}(h: -9223372036854775808≤x∧x≤9223372036854775807):IntKind.i64.wrap x=x:=IntWalk.i64_in _ h
theorem q0g {x:Int}(h:0≤x∧x≤18446744073709551615):IntKind.u64.wrap x=x:=by rw[IntKind.wrap_u64];exact Int.emod_eq_of_lt h.1 (by omega)
theorem wU8 {x:Int}(h:0≤x∧x≤255):IntKind.u8.wrap x=x:=by
 show(if false=true∧x% (2^8)≥2^ (8-1)then x% (2^8)-2^8 else x% (2^8))=x
 rw[if_neg (by simp)];exact Int.emod_eq_of_lt h.1 (by omega)
theorem p0J {p:Prop}[Decidable p](h:p):decide p=true:=decide_eq_true h
theorem e0G {p:Prop}[Decidable p](h: ¬p):decide p=false:=decide_eq_false h
theorem RelV.nilRo {R:Nat→Prop}{W:World}{u:Value}(h:RelV R W (.val (.slice none 0 0)) u):RelV R W (.ro false 0 []) u:=by
 rw[h.val_inv];exact .emp _ _ _ (fun h=>by cases h) (Nat.zero_le _)
theorem RelV.unfull {R:Nat→Prop}{W:World}{full:Bool}{n:Nat}{xs:List AV}{u:Value}(h:RelV R W (.ro full n xs) u):RelV R W (.ro false n xs) u:=by
 cases h with
 |emp _ a cap h1 h2=>exact .emp _ a cap (fun h=>by cases h) h2
 |ro _ _ _ b off cap us hb hc hr h1 h2 h3=>exact .ro _ _ _ b off cap us hb hc hr h1 h2 (fun h=>by cases h)
theorem RelA.shadow {R:Nat→Prop}{W:World}{a:Act}(ha:RelA N R W E a){t:Nat}{w:AV}(h:RelV R W w (a.eval (.tmp t))):RelA N R W ((t,w)::E) a:=
 ⟨ha.defers,ha.size,fun s v hs=>by
  unfold a0r at hs
  cases hb:Nat.beq t s with
  |true=>rw[hb]at hs;cases hs;have:=Nat.eq_of_beq_eq_true hb;subst this;exact h
  |false=>rw[hb]at hs;exact ha.slots s v hs⟩
theorem G.nilRo {X:Act→World→Prop}(t:Nat)(ht:a0r E t=some (.val (.slice none 0 0)))(k:G Γ ((t,.ro false 0 [])::E) H X):G Γ E H X:=fun R a W hs ha=>
 k R a W hs (ha.shadow (ha.slots t _ ht).nilRo)
theorem G.unfull {X:Act→World→Prop}(t:Nat){full:Bool}{n:Nat}{xs:List AV}(ht:a0r E t=some (.ro full n xs))(k:G Γ ((t,.ro false n xs)::E) H X):G Γ E H X:=fun R a W hs ha=>
 k R a W hs (ha.shadow (ha.slots t _ ht).unfull)
theorem wm {X:Act→World→Prop}{full:Bool}{n:Nat}{xs:List AV}(t:Nat)(k:G Γ ((t,.ro false n xs)::E) H X)(ht:a0r E t=some (.ro full n xs):=by exact rfl):G Γ E H X:=G.unfull t ht k
theorem G.split {X:Act→World→Prop}(t:Nat){b:Bool}(ht:a0r E t=some (.val (.bool b)))(k1:b=true→G Γ ((t,.val (.bool true))::E) H X)(k2:b=false→G Γ ((t,.val (.bool false))::E) H X):G Γ E H X:=fun R a W hs ha=>by
 have hv:=(ha.slots t _ ht).val_inv
 cases b
 ·exact k2 rfl R a W hs (ha.shadow (by rw[hv];exact .val _))
 ·exact k1 rfl R a W hs (ha.shadow (by rw[hv];exact .val _))
theorem AW.split {t:Nat}{b:Bool}{x y:Code}(ht:a0r E t=some (.val (.bool b)))(k1:b=true→AW Γ P Q x E H)(k2:b=false→AW Γ P Q y E H):AW Γ P Q (.cond (.tmp t) x y) E H:=AW.cond b ht k1 k2
theorem yt {t:Nat}{b:Bool}{x y:Code}(k1:b=true→AW Γ P Q x E H)(k2:b=false→AW Γ P Q y E H)(ht:a0r E t=some (.val (.bool b)):=by exact rfl):AW Γ P Q (.cond (.tmp t) x y) E H:=AW.split ht k1 k2
theorem a0l {P:Nat×AV→Prop}: ∀p∈([]:Env),P p:=fun _ h=>by cases h
theorem a0j {t:Nat}{v:AV}{r:Env}(h:a0r E t=some v)(hr: ∀p∈r,a0r E p.1=some p.2): ∀p∈(t,v)::r,a0r E p.1=some p.2:=fun p hp=>by
 rcases List.mem_cons.1 hp with rfl|hp
 ·exact h
 ·exact hr p hp
end
abbrev Pr2:=(Nat→Nat)→(Nat→Nat)→Value→World→Prop
inductive Anc (ops:Array Oper):Nat→Nat→Prop
 |self (i:Nat):Anc ops i i
 |step (i j k:Nat) (o:Oper) (e:Edge):ops[i]? =some o→e∈o.after→Region.binds .any e=true→e.on=j→Anc ops j k→Anc ops i k
def g0Q (a:List Nat):List Nat→List Nat
 | []=>a
 |x::r=>g0Q (bif a.contains x then a else x::a) r
theorem e0Z {x:Nat}: ∀{b a:List Nat},x∈g0Q a b→x∈a∨x∈b
 | [],a,h=> .inl h
 | y::r,a,h=>by
  unfold g0Q at h
  rcases e0Z h with h|h
  ·cases hc:a.contains y with
   |true=>rw[hc]at h;exact .inl h
   |false=>
    rw[hc]at h
    rcases List.mem_cons.1 h with rfl|h
    ·exact .inr (List.mem_cons_self ..)
    ·exact .inl h
  ·exact .inr (List.mem_cons_of_mem _ h)
def k0Z (acc:List (List Nat))(o:Oper):List Nat:=o.after.toList.foldl (fun m e=>bif Region.binds .any e then g0Q (g0Q m [e.on]) (acc.getD e.on [])else m) []
def c0P:List Oper→List (List Nat)→List (List Nat)
 | [],acc=>acc
 |o::r,acc=>c0P r (acc++[k0Z acc o])
theorem o0Y {acc:List (List Nat)}{o:Oper}{x:Nat}(h:x∈k0Z acc o): ∃e∈o.after,Region.binds .any e=true∧(x=e.on∨x∈acc.getD e.on []):=by
 unfold k0Z at h
 have key: ∀(l:List Edge) (m:List Nat),x∈l.foldl (fun m e=>bif Region.binds .any e then g0Q (g0Q m [e.on]) (acc.getD e.on [])else m) m→x∈m∨ ∃e∈l,Region.binds .any e=true∧(x=e.on∨x∈acc.getD e.on []):=by
  intro l
  induction l with
  |nil=>intro m h;exact .inl h
  | cons e l ih=>
   intro m h
   rw[List.foldl_cons]at h
   rcases ih _ h with h|⟨e',he,hh⟩
   ·cases hb:Region.binds .any e with
    |false=>rw[hb]at h;exact .inl h
    | true=>
     rw[hb]at h
     rcases e0Z h with h|h
     ·rcases e0Z h with h|h
      ·exact .inl h
      ·exact .inr ⟨e,List.mem_cons_self ..,hb,.inl (by simpa using h)⟩
     ·exact .inr ⟨e,List.mem_cons_self ..,hb,.inr h⟩
   ·exact .inr ⟨e',List.mem_cons_of_mem _ he,hh⟩
 rcases key _ _ h with h|⟨e,he,hh⟩
 ·cases h
 ·exact⟨e,by simpa using he,hh⟩
theorem i0A: ∀(l:List Oper) (acc:List (List Nat)) (i:Nat),(i<acc.length→(c0P l acc).getD i []=acc.getD i [])∧
  (∀o,acc.length≤i→l[i-acc.length]? =some o→ ∃acc',acc'.length=i∧(∀k,k<i→acc'.getD k []=(c0P l acc).getD k [])∧(c0P l acc).getD i []=k0Z acc' o)
 | [],acc,i=>⟨fun _=>rfl,fun o _ h=>by simp at h⟩
 | o ::r,acc,i=>by
  obtain⟨h1,h2⟩:=i0A r (acc++[k0Z acc o]) i
  have hlen:(acc++[k0Z acc o]).length=acc.length+1:=by simp
  refine⟨fun hi=> ?_,fun o' hi ho=> ?_⟩
  ·rw[c0P,h1 (by rw[hlen];omega)]
   simp[List.getD,List.getElem?_append,hi]
  ·by_cases he:i=acc.length
   ·subst he
    simp at ho
    subst ho
    refine⟨acc,rfl,fun k hk=> ?_,?_⟩
    ·have:=(i0A r (acc++[k0Z acc o]) k).1 (by rw[hlen];omega)
     rw[c0P,this];simp[List.getD,List.getElem?_append,hk]
    ·rw[c0P,h1 (by rw[hlen];omega)]
     simp[List.getD]
   ·rw[c0P]
    exact h2 o' (by rw[hlen];omega) (by rw[hlen];rw[show i-acc.length=(i-(acc.length+1))+1 by omega]at ho;simpa using ho)
def c0h (ops:Array Oper)(an:List (List Nat))(n i:Nat)(o:Oper):Bool:=
 let waits:=fun j=>o.after.any fun e=>Region.binds .any e&&e.on==j
 (match o.op with| .select .. =>false|_=>true)&&(o.after.all fun e=> !Region.binds .any e||decide (e.on<i))&&
 if i<n then
  o.dst.isSome&&
  (List.range n).all (fun j=>j==i||((ops[j]?).all fun oj=>(match oj.dst with|some d=>o.dst !=some d&&(!(o.looksAt ops).contains d||(decide (j<i)&&waits j))|none=>true)))
 else(List.range i).all fun j=>(an.getD i []).contains j
def d0v (ops:Array Oper)(n:Nat):Bool:=decide (n≤ops.size)&&(List.range ops.size).all fun i=>(ops[i]?).all fun o=>c0h ops (c0P ops.toList []) n i o
section
variable {P:Program}{ops:Array Oper}{Q:Exit→Act→World→Prop}{a:Act}{w0:World}
theorem b0s {n:Nat}(h:d0v ops n=true){i:Nat}{o:Oper}(ho:ops[i]? =some o):c0h ops (c0P ops.toList []) n i o=true:=by
 simp only[d0v,Bool.and_eq_true,List.all_eq_true,List.mem_range]at h
 have hi:i<ops.size:=(Array.getElem?_eq_some_iff.1 ho).1
 have:=h.2 i hi
 rw[ho]at this
 simpa using this
theorem c0K {an:List (List Nat)}{n i:Nat}{o:Oper}(h:c0h ops an n i o=true): ∀e∈o.after,Region.binds .any e=true→e.on<i:=by
 intro e he hb
 simp only[c0h,Bool.and_eq_true]at h
 have:=Array.all_eq_true_iff_forall_mem.1 h.1.2 e he
 simpa[hb]using this
theorem f0c {an:List (List Nat)}{n i j:Nat}{o oj:Oper}{d e:Tmp}(h:c0h ops an n i o=true)(hi:i<n)(hj:j<n)(hne:j≠i)(ho:ops[j]? =some oj)(hd:oj.dst=some d)(he:o.dst=some e):
  d≠e∧(d∈o.looksAt ops→j<i∧ ∃x∈o.after,Region.binds .any x=true∧x.on=j):=by
 simp only[c0h,Bool.and_eq_true,if_pos hi,List.all_eq_true,List.mem_range]at h
 have:=h.2.2 j hj
 rw[ho]at this
 simp only[hd,he,Option.all_some,Bool.or_eq_true,beq_iff_eq,hne,false_or,Bool.and_eq_true,bne_iff_ne,ne_eq,Option.some.injEq,Bool.not_eq_true',List.contains_eq_mem,cQ,decide_eq_false_iff_not]at this
 refine⟨fun e'=>this.1 e'.symm,fun hm=> ?_⟩
 rcases this.2 with h1|⟨h1,h2⟩
 ·exact absurd hm h1
 ·obtain⟨x,hx,hx2⟩:=e0i h2
  simp only[Bool.and_eq_true,beq_iff_eq]at hx2
  exact⟨h1,x,hx,hx2.1,hx2.2⟩
def c0O (ops:Array Oper)(listed:Array Bool):Prop:= ∀i o,listed.getD i false=true→ops[i]? =some o→ ∀e∈o.after,Region.binds .any e=true→listed.getD e.on false=true
theorem c0M {listed:Array Bool}(hc:c0O ops listed)(hback: ∀i o,ops[i]? =some o→ ∀e∈o.after,Region.binds .any e=true→e.on<i): ∀(i:Nat) (o:Oper),ops[i]? =some o→(∀e∈o.after,Region.binds .any e=true→listed.getD e.on false=true)→
  ∀j,j∈(c0P ops.toList []).getD i []→listed.getD j false=true:=by
 intro i
 induction i using Nat.strongRecOn with
 | _ i ih=>
  intro o ho hdeps j hj
  obtain⟨acc',h1,h2,h3⟩:=(i0A ops.toList [] i).2 o (Nat.zero_le _) (by simpa using ho)
  rw[h3]at hj
  obtain⟨e,he,hb,hx⟩:=o0Y hj
  rcases hx with rfl|hx
  ·exact hdeps e he hb
  ·have hlt:=hback i o ho e he hb
   rw[h2 _ hlt]at hx
   have hes:e.on<ops.size:=by have:=(Array.getElem?_eq_some_iff.1 ho).1;omega
   have hoe:ops[e.on]? =some ops[e.on]:=by simp[hes]
   exact ih e.on hlt _ hoe (fun e' he' hb'=>hc e.on _ (hdeps e he hb) hoe e' he' hb') j hx
theorem h0w {n i:Nat}{o:Oper}(hok:d0v ops n=true)(ho:ops[i]? =some o)(hi:n≤i){listed:Array Bool}(hc:c0O ops listed)(hdeps: ∀e∈o.after,Region.binds .any e=true→listed.getD e.on false=true): ∀j,j<i→listed.getD j false=true:=by
 intro j hj
 have h:=b0s hok ho
 simp only[c0h,Bool.and_eq_true,if_neg (show ¬i<n by omega),List.all_eq_true,List.mem_range]at h
 have h2:=h.2 j hj
 exact c0M hc (fun i o ho e he hb=>c0K (b0s hok ho) e he hb) i o ho hdeps j (by simpa using h2)
theorem c0c {listed:Array Bool}(hc:c0O ops listed){i:Nat}{o:Oper}(ho:ops[i]? =some o)(hi:i<listed.size)(hdeps: ∀e∈o.after,Region.binds .any e=true→listed.getD e.on false=true):c0O ops (listed.setIfInBounds i true):=by
 have up: ∀k,listed.getD k false=true→(listed.setIfInBounds i true).getD k false=true:=fun k hk=>by
  by_cases e:k=i
  ·subst e;simp[Array.getD,hi]
  ·rw[getD_set_ne false (Ne.symm e)];exact hk
 intro k ok hk hok e he hb
 by_cases ek:k=i
 ·subst ek
  rw[ho]at hok
  cases hok
  exact up _ (hdeps e he hb)
 ·rw[getD_set_ne false (Ne.symm ek)]at hk
  exact up _ (hc k ok hk hok e he hb)
theorem f0T {n:Nat}(hok:d0v ops n=true): ∀(fuel m:Nat) (listed:Array Bool) (A:Act) (W:World),m+fuel=ops.size→n≤m→listed.size=ops.size→c0O ops listed→
  (∀i,i<ops.size→listed.getD i false=decide (i<m))→wpList P ops Q (ops.toList.drop m) A W→wpAny P .any ops Q fuel listed A W:=by
 intro fuel
 induction fuel with
 |zero=>
  intro m listed A W hm hn hs hcl hl h
  have hd:ops.toList.drop m= []:=List.drop_eq_nil_of_le (by simp;omega)
  rw[hd]at h
  refine⟨?_,h⟩
  rw[List.eq_nil_iff_forall_not_mem]
  intro i hi
  obtain⟨h0,o,ho,_⟩:=mem_ready.1 hi
  have hi':i<ops.size:=(Array.getElem?_eq_some_iff.1 ho).1
  have:=hl i hi'
  have hi2:i<listed.size:=by omega
  simp[Array.getD,hi2]at h0 this
  rw[h0]at this
  simp at this
  omega
 | succ fuel ih=>
  intro m listed A W hm hn hs hcl hl h
  have hlt:m<ops.size:=by omega
  have hd:ops.toList.drop m=ops[m]::ops.toList.drop (m+1):=by
   rw[List.drop_eq_getElem_cons (by simpa using hlt)];simp
  rw[hd]at h
  have hom:ops[m]? =some ops[m]:=by simp[hlt]
  have hsz:m<listed.size:=by omega
  have hdm: ∀e∈ops[m].after,Region.binds .any e=true→listed.getD e.on false=true:=fun e he hb=>by
   have h1:=c0K (b0s hok hom) e he hb
   have:=hl e.on (by omega)
   rw[this];simpa using h1
  have hmr:m∈Region.ready .any ops listed:=mem_ready.2 ⟨by
    have:=hl m hlt
    simp[Array.getD,hsz]at this⊢
    exact this,ops[m],hom,hdm⟩
  refine⟨fun e=>(by rw[e]at hmr;cases hmr),fun i hi=> ?_⟩
  have him:i=m:=by
   obtain⟨h0,o,ho,hall⟩:=mem_ready.1 hi
   have hi':i<ops.size:=(Array.getElem?_eq_some_iff.1 ho).1
   have hi2:i<listed.size:=by omega
   have hge:m≤i:=by
    have:=hl i hi'
    simp[Array.getD,hi2]at h0 this
    rw[h0]at this
    simpa using this
   rcases Nat.eq_or_lt_of_le hge with e|hgt
   ·exact e.symm
   ·have:=h0w hok ho (by omega) hcl hall m hgt
    rw[hl m hlt]at this
    simp at this
  subst him
  unfold wpOp
  rw[hom]
  have hK: ∀A' W',wpList P ops Q (ops.toList.drop (i+1)) A' W'→wpAny P .any ops Q fuel (listed.setIfInBounds i true) A' W':=fun A' W' h'=>
   ih (i+1) _ A' W' (by omega) (by omega) (by simpa using hs) (c0c hcl hom hsz hdm) (fun j hj=>by
    by_cases hji:j=i
    ·subst hji;simp[Array.getD,hsz]
    ·rw[getD_set_ne false (Ne.symm hji),hl j hj]
     simp;omega) h'
  simp only[wpList]at h⊢
  split
  ·rename_i hw;rw[if_pos hw]at h;exact h.imp (Oper.wp_mono hK) id
  ·rename_i hw;rw[if_neg hw]at h;exact hK _ _ h
def x0j (w0:World)(Φ:Nat→Pr2)(W:World)(lo hi:Nat→Nat)(i:Nat)(v:Value):Prop:=w0.heap.size≤lo i∧lo i≤hi i∧hi i≤W.heap.size∧Φ i lo hi v W
structure FInv2 (ops:Array Oper) (w0:World) (a:Act) (n:Nat) (Φ:Nat→Pr2) (D:Nat→Tmp) (listed:Array Bool) (A:Act) (W:World):Prop where
 size:listed.size=ops.size
 late: ∀i,n≤i→listed.getD i false=false
 closed:c0O ops listed
 ext:Ext w0 W
 tmps:A.tmps.size=a.tmps.size
 defers:A.defers=a.defers
 has: ∃lo hi:Nat→Nat,(∀i,i<n→listed.getD i false=true→x0j w0 Φ W lo hi i (A.eval (.tmp (D i))))∧ ∀i j,i<n→j<n→i≠j→listed.getD i false=true→listed.getD j false=true→hi i≤lo j∨hi j≤lo i
 out: ∀t,(∀i,i<n→listed.getD i false=true→D i≠t)→A.eval (.tmp t)=a.eval (.tmp t)
theorem n0m {listed:Array Bool}(hc:c0O ops listed){j k:Nat}(h:Anc ops j k):listed.getD j false=true→listed.getD k false=true:=by
 induction h with
 |self i=>exact id
 |step i j k o e ho he hb hj _ ih=>exact fun hl=>ih (hj▸hc i o hl ho e he hb)
theorem p0O (hback: ∀i o,ops[i]? =some o→ ∀e∈o.after,Region.binds .any e=true→e.on<i){j k:Nat}(h:Anc ops j k):k≤j:=by
 induction h with
 |self i=>exact Nat.le_refl _
 |step i j k o e ho he hb hj _ ih=>have:=hback i o ho e he hb;omega
def m0i (P:Program)(ops:Array Oper)(w0:World)(a:Act)(n:Nat)(Φ:Nat→Pr2)(D:Nat→Tmp):Prop:=
 ∀ i,i<n→ ∀o,ops[i]? =some o→o.dst=some (D i)∧(∀lo hi v W W',(∀k,Anc ops i k→hi k≤W.heap.size)→Φ i lo hi v W→Ext W W'→Φ i lo hi v W')∧
  (∀lo hi lo' hi' v W,(∀k,Anc ops i k→lo' k=lo k∧hi' k=hi k)→Φ i lo hi v W→Φ i lo' hi' v W)∧
  ∀A W (lo hi:Nat→Nat),Ext w0 W→A.tmps.size=a.tmps.size→A.defers=a.defers→(∀j,j<i→D j∈o.looksAt ops→Anc ops i j∧x0j w0 Φ W lo hi j (A.eval (.tmp (D j)))∧ ∀k,Anc ops j k→w0.heap.size≤lo k∧hi k≤W.heap.size)→(∀t∈o.looksAt ops,(∀j,j<i→D j≠t)→A.eval (.tmp t)=a.eval (.tmp t))→
   c0N P ops o A W (fun v W'=>Ext W W'∧ ∀lo' hi':Nat→Nat,lo' i=W.heap.size→hi' i=W'.heap.size→(∀k,k≠i→lo' k=lo k∧hi' k=hi k)→Φ i lo' hi' v W')
theorem j0W {n:Nat}{Φ:Nat→Pr2}{D:Nat→Tmp}(hok:d0v ops n=true)(hn:n≤ops.size)(hD: ∀i,i<n→D i<a.tmps.size)(hall:m0i P ops w0 a n Φ D)
  (hend: ∀A W (lo hi:Nat→Nat),Ext w0 W→A.tmps.size=a.tmps.size→A.defers=a.defers→(∀i,i<n→x0j w0 Φ W lo hi i (A.eval (.tmp (D i))))→(∀i j,i<n→j<n→i≠j→hi i≤lo j∨hi j≤lo i)→
   (∀t,(∀i,i<n→D i≠t)→A.eval (.tmp t)=a.eval (.tmp t))→wpList P ops Q (ops.toList.drop n) A W):
  ∀(fuel:Nat) (listed:Array Bool) (A:Act) (W:World),fuel=listed.toList.count false→FInv2 ops w0 a n Φ D listed A W→wpAny P .any ops Q fuel listed A W:=by
 intro fuel
 induction fuel with
 | zero=>
  intro listed A W hc hI
  have hlt: ∀i,i<ops.size→listed.getD i false=true:=by
   intro i hi
   have hi':i<listed.size:=by rw[hI.size];exact hi
   cases hb:listed.getD i false with
   |true=>rfl
   | false=>
    exfalso
    have hm:false∈listed.toList:=by
     rw[←hb];simp[Array.getD,hi']
    have:=List.count_pos_iff.2 hm
    omega
  have hnn:n=ops.size:=by
   rcases Nat.lt_or_ge n ops.size with h|h
   ·have:=hI.late n (Nat.le_refl _);rw[hlt n h]at this;cases this
   ·omega
  obtain⟨lo,hi,h1,h2⟩:=hI.has
  have hw:=hend A W lo hi hI.ext hI.tmps hI.defers (fun i hi=>h1 i hi (hlt i (by omega))) (fun i j hi hj hne=>h2 i j hi hj hne (hlt i (by omega)) (hlt j (by omega))) (fun t ht=>hI.out t fun i hi _=>ht i hi)
  exact f0T hok 0 n listed A W (by omega) (Nat.le_refl _) hI.size hI.closed (fun i hi=>by rw[hlt i hi];simp;omega) hw
 | succ fuel ih=>
  intro listed A W hc hI
  obtain⟨lo,hi',hh1,hh2⟩:=hI.has
  by_cases hdone: ∀i,i<n→listed.getD i false=true
  ·have hw:=hend A W lo hi' hI.ext hI.tmps hI.defers (fun i hi=>hh1 i hi (hdone i hi)) (fun i j hi hj hne=>hh2 i j hi hj hne (hdone i hi) (hdone j hj)) (fun t ht=>hI.out t fun i hi _=>ht i hi)
   refine f0T hok (fuel+1) n listed A W ?_ (Nat.le_refl _) hI.size hI.closed (fun i hi=> ?_) hw
   ·have hl:listed.toList=List.replicate n true++List.replicate (ops.size-n) false:=by
     apply List.ext_getElem
     ·simp[hI.size];omega
     ·intro i h1 h2
      have h1':i<listed.size:=by simpa using h1
      have e:listed.toList[i]=listed.getD i false:=by simp[Array.getD,h1']
      rw[e]
      by_cases hin:i<n
      ·rw[hdone i hin,List.getElem_append_left (by simpa using hin)];simp
      ·rw[hI.late i (by omega),List.getElem_append_right (by simp;omega)];simp
    rw[hl,List.count_append]at hc
    simp[List.count_replicate]at hc
    omega
   ·by_cases hin:i<n
    ·rw[hdone i hin];simp[hin]
    ·rw[hI.late i (by omega)];simp[hin]
  ·have hne: ∃i,i∈Region.ready .any ops listed:=by
    have hex: ∃i,i<n∧listed.getD i false=false:=by
     refine Classical.byContradiction fun hno=>hdone fun i hi=> ?_
     cases hb:listed.getD i false with
     |true=>rfl
     |false=>exact absurd ⟨i,hi,hb⟩ hno
    obtain⟨i,⟨hi,hf⟩,hmin⟩: ∃i,(i<n∧listed.getD i false=false)∧ ∀j,j<i→ ¬(j<n∧listed.getD j false=false):=by
     obtain⟨i,h⟩:=hex
     exact m0P ⟨i,h⟩
    have hio:ops[i]? =some ops[i]:=by simp[show i<ops.size by omega]
    refine⟨i,mem_ready.2 ⟨by rw[b0a (by rw[hI.size];omega)];exact hf,_,hio,fun e he hb=> ?_⟩⟩
    have:=c0K (b0s hok hio) e he hb
    cases hb2:listed.getD e.on false with
    |true=>rfl
    |false=>exact absurd ⟨by omega,hb2⟩ (hmin e.on this)
   refine⟨fun e=>(by obtain⟨i,hi⟩:=hne;rw[e]at hi;cases hi),fun i hi=> ?_⟩
   obtain⟨h0,o,ho,hdeps⟩:=mem_ready.1 hi
   have hio:i<ops.size:=(Array.getElem?_eq_some_iff.1 ho).1
   have hf:listed.getD i false=false:=by rw[←b0a (by rw[hI.size];exact hio)];exact h0
   have hin:i<n:=by
    refine Classical.byContradiction fun hge=>hdone fun j hj=> ?_
    exact h0w hok ho (by omega) hI.closed hdeps j (by omega)
   obtain⟨hdst,hst,hloc,hstep⟩:=hall i hin o ho
   have hback: ∀i o,ops[i]? =some o→ ∀e∈o.after,Region.binds .any e=true→e.on<i:=fun i o ho e he hb=>c0K (b0s hok ho) e he hb
   have hanc: ∀j k,j<n→listed.getD j false=true→Anc ops j k→k<n∧listed.getD k false=true:=fun j k hj hl h=>⟨by have:=p0O hback h;omega,n0m hI.closed h hl⟩
   have hpair: ∀j,j<n→j≠i→D j≠D i∧(D j∈o.looksAt ops→j<i∧listed.getD j false=true):=by
    intro j hj hji
    have hoj:ops[j]? =some ops[j]:=by simp[show j<ops.size by omega]
    obtain⟨h1,h2⟩:=f0c (b0s hok ho) hin hj hji hoj (hall j hj _ hoj).1 hdst
    refine⟨h1,fun hm=> ?_⟩
    obtain⟨h3,x,hx,hxb,hxo⟩:=h2 hm
    exact⟨h3,by rw[←hxo];exact hdeps x hx hxb⟩
   have hdir: ∀j,j<n→j≠i→D j∈o.looksAt ops→Anc ops i j:=fun j hj hji hm=>by
    have hoj:ops[j]? =some ops[j]:=by simp[show j<ops.size by omega]
    obtain⟨h3,x,hx,hxb,hxo⟩:=(f0c (b0s hok ho) hin hj hji hoj (hall j hj _ hoj).1 hdst).2 hm
    exact .step i j j o x ho hx hxb hxo (.self j)
   have hs:=hstep A W lo hi' hI.ext hI.tmps hI.defers (fun j hj hm=>by
    have hl:=((hpair j (by omega) (by omega)).2 hm).2
    refine⟨hdir j (by omega) (by omega) hm,hh1 j (by omega) hl,fun k hk=> ?_⟩
    obtain⟨h5,h6⟩:=hanc j k (by omega) hl hk
    obtain⟨g1,g2,g3,g4⟩:=hh1 k h5 h6
    exact⟨g1,g3⟩) (fun t ht htd=>hI.out t fun j hj hlj e=>by
    subst e
    by_cases hji:j=i
    ·subst hji;rw[hf]at hlj;cases hlj
    ·exact htd j ((hpair j hj hji).2 ht).1 rfl)
   have hnext: ∀v W',(Ext W W'∧ ∀lo2 hi2:Nat→Nat,lo2 i=W.heap.size→hi2 i=W'.heap.size→(∀k,k≠i→lo2 k=lo k∧hi2 k=hi' k)→Φ i lo2 hi2 v W')→wpAny P .any ops Q fuel (listed.setIfInBounds i true) (A.put o.dst v) W':=by
    intro v W' ⟨hE,hφ⟩
    have hil:i<listed.size:=by rw[hI.size];exact hio
    have hDi:D i<A.tmps.size:=by rw[hI.tmps];exact hD i hin
    refine ih _ _ _ ?_ ⟨by simpa using hI.size,?_,c0c hI.closed ho hil hdeps,hI.ext.trans hE,?_,?_,⟨fun k=>if k=i then W.heap.size else lo k,fun k=>if k=i then W'.heap.size else hi' k,?_,?_⟩,?_⟩
    ·have hcs:=a0T listed.toList i (by simpa using hil) (by simpa[Array.getD,hil]using hf)
     simp only[Array.toList_setIfInBounds]
     omega
    ·intro j hj
     rw[getD_set_ne false (show i≠j by omega)];exact hI.late j hj
    ·rw[hdst];simp[Act.put,hI.tmps]
    ·rw[hdst];simp[Act.put,hI.defers]
    ·intro j hj hlj
     rw[hdst]
     by_cases hji:j=i
     ·subst hji;rw[a0t hDi]
      refine⟨?_,?_,?_,?_⟩
      ·simp;exact hI.ext.size
      ·simp;exact hE.size
      ·simp
      ·exact hφ _ _ (by simp) (by simp) (fun k hk=>by simp[hk])
     ·rw[getD_set_ne false (Ne.symm hji)]at hlj
      rw[a0d (Ne.symm (hpair j hj hji).1)]
      have hoj:ops[j]? =some ops[j]:=by simp[show j<ops.size by omega]
      obtain⟨g1,g2,g3,g4⟩:=hh1 j hj hlj
      refine⟨by simp[hji];exact g1,by simp[hji];exact g2,by simp[hji];exact Nat.le_trans g3 hE.size,?_⟩
      obtain⟨-,hst2,hloc2, -⟩:=hall j hj _ hoj
      refine hloc2 lo hi' _ _ _ _ (fun k hk=> ?_) (hst2 _ _ _ _ _ (fun k hk=>(hh1 k (hanc j k hj hlj hk).1 (hanc j k hj hlj hk).2).2.2.1) g4 hE)
      have hki:k≠i:=fun e=>by
       have:=(hanc j k hj hlj hk).2
       rw[e,hf]at this;cases this
      simp[hki]
    ·intro j k hj hk hjk hlj hlk
     by_cases hji:j=i
     ·subst hji
      have hki:k≠j:=Ne.symm hjk
      rw[getD_set_ne false hjk]at hlk
      obtain⟨g1,g2,g3,g4⟩:=hh1 k hk hlk
      right;simp[hki];exact g3
     ·rw[getD_set_ne false (Ne.symm hji)]at hlj
      by_cases hki:k=i
      ·subst hki
       obtain⟨g1,g2,g3,g4⟩:=hh1 j hj hlj
       left;simp[hji];exact g3
      ·rw[getD_set_ne false (Ne.symm hki)]at hlk
       simp[hji,hki];exact hh2 j k hj hk hjk hlj hlk
    ·intro t ht
     rw[hdst]
     have hti:D i≠t:=ht i hin (by simp[Array.getD,hil])
     rw[a0d hti]
     refine hI.out t fun j hj hlj=>ht j hj ?_
     by_cases hji:j=i
     ·subst hji;simp[Array.getD,hil]
     ·rw[getD_set_ne false (Ne.symm hji)];exact hlj
   unfold wpOp
   rw[ho]
   unfold c0N at hs
   show if Region.wanted o (yielded ops A.tmps)=true then _ else _
   split
   ·rename_i hw
    rw[if_pos hw]at hs
    refine .inl (Oper.wp_mono ?_ (a0Z hs))
    rintro A' W' ⟨v,rfl,hp⟩
    exact hnext v W' hp
   ·rename_i hw
    rw[if_neg hw]at hs
    exact hnext _ _ hs
end
end Go.Proofs.YtojomcdjcpmnkaaGreat.A
