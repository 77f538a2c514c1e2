/-
  Texts laid together (part 3): what the statement's walk and plain law need. No condition.
-/
import Derived.Test.YtojomcdjcpmnkaaGreatZo2
set_option linter.unusedVariables false
set_option linter.unusedSimpArgs false
set_option maxRecDepth 20000
set_option maxHeartbeats 4000000
namespace Go.Proofs.YtojomcdjcpmnkaaGreat.A
open Go.RowKit L
section
variable {P:Program}{ops:Array Oper}{N:Nat}
def r0J (als:List Al)(i:Nat):Option Al:=als.find? fun al=>Nat.beq al.i i
def g0r (als:List Al)(i:Nat):Bool:=(r0J als i).isSome
theorem p0R {als:List Al}{i:Nat}{al:Al}(h:r0J als i=some al):al∈als∧al.i=i:=⟨List.mem_of_find?_eq_some h,Nat.eq_of_beq_eq_true (List.find?_some (p:=fun al:Al=>Nat.beq al.i i) h)⟩
theorem c0x {als:List Al}(hn:(als.map Al.i).Nodup){al:Al}(h:al∈als):r0J als al.i=some al:=by
 induction als with
 |nil=>cases h
 | cons a r ih=>
  rw[List.map_cons,List.nodup_cons]at hn
  unfold r0J
  rw[List.find?_cons]
  rcases List.mem_cons.1 h with rfl|h
  ·simp
  ·have hne:Nat.beq a.i al.i=false:=by
    cases hb:Nat.beq a.i al.i with
    |false=>rfl
    |true=>exact absurd (List.mem_map.2 ⟨al,h,(Nat.eq_of_beq_eq_true hb).symm⟩) hn.1
   rw[hne];exact ih hn.2 h
def upd (ea:Nat→Option Nat)(i:Nat)(v:Option Nat):Nat→Option Nat:=fun k=>if k=i then v else ea k
theorem c0q (ea:Nat→Option Nat)(i:Nat)(v:Option Nat):upd ea i v i=v:=if_pos rfl
theorem b0y (ea:Nat→Option Nat){i k:Nat}(v:Option Nat)(h:k≠i):upd ea i v k=ea k:=if_neg h
def c0E (als:List Al)(ea:Nat→Option Nat):List HE:=als.flatMap fun al=>al.hs (ea al.i)
theorem k0I {als:List Al}{ea ea':Nat→Option Nat}(h: ∀al∈als,ea al.i=ea' al.i):c0E als ea=c0E als ea':=by
 induction als with
 |nil=>rfl
 |cons a r ih=>
  unfold c0E at ih⊢
  rw[List.flatMap_cons,List.flatMap_cons,h a (List.mem_cons_self ..),ih fun al hal=>h al (List.mem_cons_of_mem _ hal)]
theorem j0A {als:List Al}(hn:(als.map Al.i).Nodup){al:Al}(hm:al∈als){ea:Nat→Option Nat}(b:Nat)(h:ea al.i=none):(c0E als (upd ea al.i (some b))).Perm (al.he b::c0E als ea):=by
 induction als with
 |nil=>cases hm
 | cons a r ih=>
  rw[List.map_cons,List.nodup_cons]at hn
  rcases List.mem_cons.1 hm with rfl|hm
  ·have e:c0E r (upd ea al.i (some b))=c0E r ea:=k0I fun x hx=>b0y _ _ fun e=>hn.1 (List.mem_map.2 ⟨x,hx,e⟩)
   show(al.hs (upd ea al.i (some b) al.i)++c0E r (upd ea al.i (some b))).Perm (al.he b::(al.hs (ea al.i)++c0E r ea))
   rw[c0q,h,e];exact .refl _
  ·have hne:a.i≠al.i:=fun e=>hn.1 (List.mem_map.2 ⟨al,hm,e.symm⟩)
   show(a.hs (upd ea al.i (some b) a.i)++c0E r (upd ea al.i (some b))).Perm (al.he b::(a.hs (ea a.i)++c0E r ea))
   rw[b0y _ _ hne]
   exact((ih hn.2 hm).append_left _).trans List.perm_middle
theorem k0J {als:List Al}(hn:(als.map Al.i).Nodup){al:Al}(hm:al∈als){ea:Nat→Option Nat}{b:Nat}(h:ea al.i=some b):(c0E als ea).Perm (al.he b::c0E als (upd ea al.i none)):=by
 have e:ea=upd (upd ea al.i none) al.i (some b):=by
  funext k
  by_cases hk:k=al.i
  ·subst hk;rw[c0q];exact h
  ·rw[b0y _ _ hk,b0y _ _ hk]
 have:=j0A hn hm (ea:=upd ea al.i none) b (c0q _ _ _)
 rwa [←e]at this
theorem h0A {als:List Al}{ea:Nat→Option Nat}(h: ∀i,ea i=none):c0E als ea= []:=by
 induction als with
 |nil=>rfl
 |cons a r ih=>
  show a.hs (ea a.i)++c0E r ea= []
  rw[h,ih];rfl
def AB (P:Program)(N:Nat)(ops:Array Oper)(als:List Al)(Hs:List HE)(K:Env→List HE→Prop):List (Nat×Bool)→Env→List HE→Prop
 | [],E,H=>K E H
 |(i,true)::r,E,H=>match r0J als i with
  |some al=> ∀b,AB P N ops als Hs K r ((al.d,.val (.pointer (some ⟨b,0,none⟩)))::E) (al.he b::H)
  |none=> ∃o,ops[i]? =some o∧ ∀w0 R0,AO ⟨w0,a0E H,R0,N⟩ P ops (QS ⟨w0,a0E H,R0,N⟩ o.dst (fun v H'=>AB P N ops als Hs K r (a0q o.dst v E) H')) [o] (rst E (o.looksAt ops)) H
 |(i,false)::r,E,H=> ∃o d v,ops[i]? =some o∧o.dst=some d∧d<N∧OpF P N ops o (rst E (o.looksAt ops)) Hs (Is v)∧AB P N ops als Hs K r ((d,v)::E) H
def d0H (ops:Array Oper)(ia:Nat→Bool)(an:List (List Nat))(i:Nat)(b:Bool)(j:Nat)(c:Bool):Bool:=
 match ops[i]?,ops[j]?with
 | some oi,some oj=>
  let waits:=oj.after.any fun e=>Region.binds .any e&&e.on==i
  let anc:=(an.getD j []).contains i
  (i !=j)&&(!b||anc||ia j)&&
  (match oj.dst with
   |some d=>bif c&& !ia j then(!((oi.looksAt ops).contains d||oi.dst==some d))||anc else !(oi.looksAt ops).contains d&&oi.dst !=some d
   |none=>c&& !ia j)&&
  (match oi.dst with
   |some d=> !(oj.looksAt ops).contains d||waits
   |none=>true)
 |_,_=>false
def b0D (ops:Array Oper)(ia:Nat→Bool)(an:List (List Nat)):List (Nat×Bool)→Bool
 | []=>true
 |(i,b)::r=>(b||(match ops[i]?with|some o=>(match o.dst with|some d=> !(o.looksAt ops).contains d|none=>false)|none=>false))&&r.all (fun q=>d0H ops ia an i b q.1 q.2)&&b0D ops ia an r
def r0Z (ops:Array Oper)(ia:Nat→Bool)(ord:List (Nat×Bool)):Bool:=
 ((List.range ops.size).all fun i=>(ord.map Prod.fst).contains i)&&(ord.all fun q=>decide (q.1<ops.size))&&
 ((List.range ops.size).all fun i=>(ops[i]?).all fun o=>o.after.all fun e=> !Region.binds .any e||decide (e.on<i))&&(ord.all fun q=> !ia q.1||q.2)&&b0D ops ia (c0P ops.toList []) ord
theorem a0k {ia:Nat→Bool}{an:List (List Nat)}: ∀{pre r:List (Nat×Bool)},b0D ops ia an (pre++r)=true→b0D ops ia an r=true∧ ∀q∈pre,∀s∈r,d0H ops ia an q.1 q.2 s.1 s.2=true
 | [],r,h=>⟨h,fun q hq=>by cases hq⟩
 |(i,b)::pre,r,h=>by
  rw[cA,b0D]at h
  simp only[Bool.and_eq_true,List.all_eq_true]at h
  obtain⟨h1,h2⟩:=a0k h.2
  refine⟨h1,fun q hq s hs=> ?_⟩
  rcases List.mem_cons.1 hq with rfl|hq
  ·exact h.1.2 s (List.mem_append_right _ hs)
  ·exact h2 q hq s hs
structure PairOkB (ops:Array Oper) (ia:Nat→Bool) (an:List (List Nat)) (i:Nat) (b:Bool) (oi:Oper) (j:Nat) (c:Bool) (oj:Oper):Prop where
 ne:i≠j
 main:b=true→ia j=false→i∈an.getD j []
 flt:c=false∨ia j=true→ ∃d,oj.dst=some d∧d∉oi.looksAt ops∧oi.dst≠some d
 mn:c=true→ia j=false→ ∀d,oj.dst=some d→(d∈oi.looksAt ops∨oi.dst=some d)→i∈an.getD j []
 reads: ∀d,oi.dst=some d→d∈oj.looksAt ops→ ∃e∈oj.after,Region.binds .any e=true∧e.on=i
theorem b0k {ia:Nat→Bool}{an:List (List Nat)}{i j:Nat}{b c:Bool}{oi oj:Oper}(h:d0H ops ia an i b j c=true)(hi:ops[i]? =some oi)(hj:ops[j]? =some oj):PairOkB ops ia an i b oi j c oj:=by
 unfold d0H at h
 rw[hi,hj]at h
 simp only[Bool.and_eq_true,bne_iff_ne,ne_eq]at h
 obtain⟨⟨⟨h1,h2⟩,h3⟩,h4⟩:=h
 refine⟨h1,fun hb hj=> ?_,fun hc=> ?_,fun hc hj d hd hm=> ?_,fun d hd hm=> ?_⟩
 ·subst hb;simpa[hj]using h2
 ·have hcj:(c&& !ia j)=false:=by rcases hc with hc|hc<;>simp[hc]
  cases hd:oj.dst with
  |none=>rw[hd]at h3;simp only[hcj]at h3;cases h3
  |some d=>
   rw[hd]at h3
   simp only[hcj,cond_false]at h3
   simp at h3
   exact⟨d,rfl,h3.1,h3.2⟩
 ·subst hc
  have hcj:(true&& !ia j)=true:=by simp[hj]
  rw[hd]at h3
  simp only[hcj,cond_true]at h3
  simp at h3
  rcases h3 with h3|h3
  ·rcases hm with hm|hm
   ·exact absurd hm h3.1
   ·exact absurd hm h3.2
  ·exact h3
 ·rw[hd]at h4
  simp only[Bool.or_eq_true,Bool.not_eq_true',List.contains_eq_mem,decide_eq_false_iff_not]at h4
  rcases h4 with h4|h4
  ·exact absurd hm h4
  ·obtain⟨x,hx,hx2⟩:=e0i h4
   simp only[Bool.and_eq_true,beq_iff_eq]at hx2
   exact⟨x,hx,hx2.1,hx2.2⟩
structure NB (P:Program) (Γ:Cx) (ops:Array Oper) (als:List Al) (Hs:List HE) (K:Env→List HE→Prop) (ord:List (Nat×Bool)) (listed:Array Bool) (A:Act) (W:World) (pre ms:List (Nat×Bool)) (Pd:List Nat) (ea:Nat→Option Nat) (E:Env) (H:List HE) (R:Nat→Prop):Prop where
 size:listed.size=ops.size
 closed:c0O ops listed
 part: ∀i,i<ops.size→(listed.getD i false=false↔(i∈Pd∨i∈ms.map Prod.fst)∧ea i=none)
 ord:ord=pre++ms
 pdp: ∀i∈Pd,(i,false)∈pre
 am:AB P Γ.N ops als Hs K ms E H
 pend: ∀i∈Pd,∃o d v,ops[i]? =some o∧o.dst=some d∧d<Γ.N∧a0r E d=some v∧OpF P Γ.N ops o (rst E (o.looksAt ops)) Hs (Is v)
 rels:RelS Γ R (H++(c0E als ea++Hs)) W
 eal: ∀i b,ea i=some b→ ∃al∈als,al.i=i∧(i,true)∈ms∧A.eval (.tmp al.d)= .pointer (some ⟨b,0,none⟩)
 defers:A.defers= []
 tmps:A.tmps.size=Γ.N
 act: ∀t v,a0r E t=some v→(∀i∈Pd,∀o,ops[i]? =some o→o.dst≠some t)→(∀al∈als,ea al.i≠none→t≠al.d)→RelV R W v (A.eval (.tmp t))
variable {Γ:Cx}{als:List Al}{Hs:List HE}{K:Env→List HE→Prop}{ord:List (Nat×Bool)}
def alsOk (P:Program)(N:Nat)(ops:Array Oper)(als:List Al):Prop:=(als.map Al.i).Nodup∧ ∀al∈als,al.ok P N ops
theorem NB.absorb {listed:Array Bool}{A:Act}{W:World}{R:Nat→Prop}(hok:b0D ops (g0r als) (c0P ops.toList []) ord=true)(hals:alsOk P Γ.N ops als): ∀(ms pre:List (Nat×Bool)) (Pd:List Nat) (ea:Nat→Option Nat) (E:Env) (H:List HE),NB P Γ ops als Hs K ord listed A W pre ms Pd ea E H R→
  ∃pre' ms' Pd' ea' E' H',NB P Γ ops als Hs K ord listed A W pre' ms' Pd' ea' E' H' R∧(ms'= []∨ ∃m r,ms'=(m,true)::r∧ea' m=none)
 | [],pre,Pd,ea,E,H,h=>⟨pre,[],Pd,ea,E,H,h,.inl rfl⟩
 | (m,true)::r,pre,Pd,ea,E,H,h=>by
  cases hea:ea m with
  |none=>exact⟨pre,_,Pd,ea,E,H,h,.inr ⟨m,r,rfl,hea⟩⟩
  | some b=>
   obtain⟨al,halm,rfl, -,hpt⟩:=h.eal m b hea
   have hfa:r0J als al.i=some al:=c0x hals.1 halm
   have hisal:g0r als al.i=true:=by unfold g0r;rw[hfa];rfl
   obtain⟨oa,ho,hd,hN,hg,hop⟩:=hals.2 al halm
   have ham:=h.am
   rw[AB,hfa]at ham
   have hord:=h.ord
   have hq:=a0k (pre:=pre) (r:=(al.i,true)::r) (by rw[←hord];exact hok)
   have hself: ∀i∈Pd,i≠al.i:=fun i hi e=>by
    have:=b0k (hq.2 _ (h.pdp i hi) (al.i,true) (List.mem_cons_self ..)) (by rw[e];exact ho) ho
    exact this.ne e
   have hp: ∀i∈Pd,∀oi,ops[i]? =some oi→al.d∉oi.looksAt ops∧oi.dst≠some al.d:=fun i hi oi hoi=>by
    have:=b0k (hq.2 _ (h.pdp i hi) (al.i,true) (List.mem_cons_self ..)) hoi ho
    obtain⟨d',h1,h2,h3⟩:=this.flt (.inr hisal)
    rw[hd]at h1
    cases h1
    exact⟨h2,h3⟩
   have hnr:al.i∉r.map Prod.fst:=fun hm=>by
    obtain⟨⟨j,c⟩,hq3,hji⟩:=List.mem_map.1 hm
    have h9:=(a0k (pre:=pre++[(al.i,true)]) (r:=r) (by rw[List.append_assoc,List.singleton_append,←hord];exact hok)).2 (al.i,true) (by simp) _ hq3
    simp only at hji
    subst hji
    exact(b0k h9 ho ho).ne rfl
   refine NB.absorb hok hals r (pre++[(al.i,true)]) Pd (upd ea al.i none) ((al.d,.val (.pointer (some ⟨b,0,none⟩)))::E) (al.he b::H) ⟨h.size,h.closed,fun i hi=> ?_,by rw[hord];simp,fun i hi=>List.mem_append_left _ (h.pdp i hi),ham b,fun i hi=> ?_,?_,fun i b' hb'=> ?_,h.defers,h.tmps,fun t x ht hpd hne=> ?_⟩
   ·rw[h.part i hi]
    simp only[List.map_cons,List.mem_cons]
    by_cases hia:i=al.i
    ·subst hia
     rw[c0q,hea]
     constructor
     ·rintro⟨_,h2⟩;cases h2
     ·rintro⟨h1|h1,_⟩
      ·exact absurd rfl (hself _ h1)
      ·exact absurd h1 hnr
    ·rw[b0y _ _ hia]
     refine and_congr_left fun _=> ?_
     constructor
     ·rintro(h1|h1|h1)
      ·exact .inl h1
      ·exact absurd h1 hia
      ·exact .inr h1
     ·rintro(h1|h1)
      ·exact .inl h1
      ·exact .inr (.inr h1)
   ·obtain⟨oi,di,vi,h1,h2,h3,h4,h5⟩:=h.pend i hi
    obtain⟨h6,h7⟩:=hp i hi oi h1
    refine⟨oi,di,vi,h1,h2,h3,?_,by rw[b0e h6];exact h5⟩
    rw[a0J (fun e=>h7 (by rw[h2,e]))];exact h4
   ·refine h.rels.perm ?_
    have h1:=k0J hals.1 halm hea
    show(al.he b::(H++(c0E als (upd ea al.i none)++Hs))).Perm (H++(c0E als ea++Hs))
    refine(List.perm_middle (a:=al.he b) (l₁:=H)).symm.trans ?_
    exact((h1.symm.append_right Hs).append_left H)
   ·by_cases hia:i=al.i
    ·subst hia;rw[c0q]at hb';cases hb'
    ·rw[b0y _ _ hia]at hb'
     obtain⟨al',h1,h2,h3,h4⟩:=h.eal i b' hb'
     refine⟨al',h1,h2,?_,h4⟩
     rcases List.mem_cons.1 h3 with h3|h3
     ·cases h3;exact absurd rfl hia
     ·exact h3
   ·by_cases hdt:al.d=t
    ·subst hdt
     rw[b0n]at ht
     cases ht
     rw[hpt];exact .val _
    ·rw[a0J hdt]at ht
     refine h.act t x ht hpd fun al' hal' hne' e=> ?_
     by_cases hia:al'.i=al.i
     ·have h1:=c0x hals.1 hal'
      rw[hia,hfa]at h1
      cases h1
      exact hdt e.symm
     ·exact hne al' hal' (by rw[b0y _ _ hia];exact hne') e
 | (j,false)::r,pre,Pd,ea,E,H,h=>by
  obtain⟨o,d,v,ho,hd,hN,hop,ham⟩:=h.am
  have hord:=h.ord
  have hq:=a0k (pre:=pre) (r:=(j,false)::r) (by rw[←hord];exact hok)
  have hself:d∉o.looksAt ops:=by
   have:=hq.1
   rw[b0D]at this
   simp only[Bool.and_eq_true,ho,hd,Bool.false_or]at this
   simpa using this.1.1
  have hp: ∀i∈Pd,∀oi,ops[i]? =some oi→d∉oi.looksAt ops∧oi.dst≠some d:=fun i hi oi hoi=>by
   have:=b0k (hq.2 _ (h.pdp i hi) (j,false) (List.mem_cons_self ..)) hoi ho
   obtain⟨d',h1,h2,h3⟩:=this.flt (.inl rfl)
   rw[hd]at h1
   cases h1
   exact⟨h2,h3⟩
  refine NB.absorb hok hals r (pre++[(j,false)]) (j::Pd) ea ((d,v)::E) H ⟨h.size,h.closed,fun i hi=> ?_,by rw[hord];simp,fun i hi=> ?_,ham,fun i hi=> ?_,h.rels,fun i b hb=> ?_,h.defers,h.tmps,fun t x ht hpd hea=> ?_⟩
  ·rw[h.part i hi]
   simp only[List.map_cons,List.mem_cons]
   refine and_congr_left fun _=> ?_
   constructor
   ·rintro(h|h|h)
    ·exact .inl (.inr h)
    ·exact .inl (.inl h)
    ·exact .inr h
   ·rintro((h|h)|h)
    ·exact .inr (.inl h)
    ·exact .inl h
    ·exact .inr (.inr h)
  ·rcases List.mem_cons.1 hi with rfl|hi
   ·simp
   ·exact List.mem_append_left _ (h.pdp i hi)
  ·rcases List.mem_cons.1 hi with rfl|hi
   ·exact⟨o,d,v,ho,hd,hN,b0n,by rw[b0e hself];exact hop⟩
   ·obtain⟨oi,di,vi,h1,h2,h3,h4,h5⟩:=h.pend i hi
    obtain⟨h6,h7⟩:=hp i hi oi h1
    refine⟨oi,di,vi,h1,h2,h3,?_,by rw[b0e h6];exact h5⟩
    rw[a0J (fun e=>h7 (by rw[h2,e]))];exact h4
  ·obtain⟨al,h0,h9,h1,h2⟩:=h.eal i b hb
   refine⟨al,h0,h9,?_,h2⟩
   rcases List.mem_cons.1 h1 with h1|h1
   ·cases h1
   ·exact h1
  ·have hne:d≠t:=fun e=>hpd j (List.mem_cons_self ..) o ho (by rw[hd,e])
   rw[a0J hne]at ht
   exact h.act t x ht (fun i hi=>hpd i (List.mem_cons_of_mem _ hi)) hea
theorem NB.reads {listed:Array Bool}{A:Act}{W:World}{R:Nat→Prop}{pre ms:List (Nat×Bool)}{Pd:List Nat}{ea:Nat→Option Nat}{E:Env}{H:List HE}(hok:b0D ops (g0r als) (c0P ops.toList []) ord=true)(hals:alsOk P Γ.N ops als)(h:NB P Γ ops als Hs K ord listed A W pre ms Pd ea E H R)
  {i:Nat} {b:Bool} {o:Oper} (ho:ops[i]? =some o) (hdeps: ∀e∈o.after,Region.binds .any e=true→listed.getD e.on false=true) (hi:(i,b)∈pre∧i∈Pd∧b=false∨ ∃r,ms=(i,b)::r∧g0r als i=false):RelA Γ.N R W (rst E (o.looksAt ops)) A:=by
 refine⟨h.defers,h.tmps,fun t v ht=> ?_⟩
 obtain⟨htl,ht⟩:=d0b ht
 have hnal: ∀al∈als,ea al.i≠none→t≠al.d:=fun al halm hea e=>by
  obtain⟨oa,hoa,hda, -⟩:=hals.2 al halm
  have hisal:g0r als al.i=true:=by unfold g0r;rw[c0x hals.1 halm];rfl
  obtain⟨b',hb'⟩:=Option.ne_none_iff_exists'.1 hea
  obtain⟨_, -, -,hmem, -⟩:=h.eal _ b' hb'
  have key:d0H ops (g0r als) (c0P ops.toList []) i b al.i true=true→False:=fun hp=>by
   obtain⟨d',h1,h2, -⟩:=(b0k hp ho hoa).flt (.inr hisal)
   rw[hda]at h1;cases h1
   exact h2 (e▸htl)
  rcases hi with⟨hip, -, -⟩|⟨r,hms,hne⟩
  ·exact key ((a0k (pre:=pre) (r:=ms) (by rw[←h.ord];exact hok)).2 _ hip _ hmem)
  ·rw[hms]at hmem
   rcases List.mem_cons.1 hmem with h9|h9
   ·cases h9;rw[hisal]at hne;cases hne
   ·exact key ((a0k (pre:=pre++[(i,b)]) (r:=r) (by have:=h.ord;rw[List.append_assoc,List.singleton_append,←hms,←this];exact hok)).2 (i,b) (by simp) _ h9)
 refine h.act t v ht (fun k hk ok hok' hdk=> ?_) hnal
 have hkp:=h.pdp k hk
 have hkn:ea k=none:=Classical.byContradiction fun hne=>by
  obtain⟨b',hb'⟩:=Option.ne_none_iff_exists'.1 hne
  obtain⟨al,halm,rfl,hmem, -⟩:=h.eal _ b' hb'
  obtain⟨oa,hoa,hda, -⟩:=hals.2 al halm
  exact(b0k ((a0k (pre:=pre) (r:=ms) (by rw[←h.ord];exact hok)).2 _ hkp _ hmem) hok' hoa).ne rfl
 have hkf:listed.getD k false=false:=(h.part k (Array.getElem?_eq_some_iff.1 hok').1).2 ⟨.inl hk,hkn⟩
 have direct:d0H ops (g0r als) (c0P ops.toList []) k false i b=true→False:=fun hp=>by
  obtain⟨e,he,hb,hon⟩:=(b0k hp hok' ho).reads t hdk htl
  have:=hdeps e he hb
  rw[hon,hkf]at this;cases this
 rcases hi with⟨hip,hiP,rfl⟩|⟨r,hms, -⟩
 ·
  obtain⟨p1,p2,hp12⟩:=List.append_of_mem hkp
  have hord:=h.ord
  rw[hp12,List.append_assoc]at hord
  rw[hp12]at hip
  rcases List.mem_append.1 hip with hip|hip
  ·
   have hq:=a0k (pre:=p1) (by rw[←hord];exact hok)
   have:=b0k (hq.2 _ hip (k,false) (List.mem_cons_self ..)) ho hok'
   obtain⟨d',h1,h2, -⟩:=this.flt (.inl rfl)
   rw[hdk]at h1;cases h1
   exact h2 htl
  ·rcases List.mem_cons.1 hip with he|hip
   ·cases he
    have hq:=(a0k (pre:=p1) (by rw[←hord];exact hok)).1
    rw[cA,b0D]at hq
    simp only[Bool.and_eq_true]at hq
    obtain rfl:o=ok:=by rw[ho]at hok';exact Option.some.inj hok'
    have:=hq.1.1
    rw[ho]at this
    simp only[hdk,Bool.false_or]at this
    simp at this
    exact this htl
   ·rw[show p1++((k,false)::p2++ms)=(p1++[(k,false)])++(p2++ms) by simp]at hord
    have hq:=a0k (pre:=p1++[(k,false)]) (by rw[←hord];exact hok)
    exact direct (hq.2 (k,false) (by simp) (i,false) (List.mem_append_left _ hip))
 ·have hq:=a0k (pre:=pre) (r:=ms) (by rw[←h.ord];exact hok)
  exact direct (hq.2 _ hkp (i,b) (by rw[hms];exact List.mem_cons_self ..))
theorem AW.regionB {Q:Exit→Act→World→Prop}{E:Env}{H:List HE}{id:Nat}{l:List Oper}(als:List Al)(hals0:alsOk P Γ.N l.toArray als)(ord:List (Nat×Bool)){Hm Hs:List HE}(hm:P.follows .mixedOrders=true)(hok:r0Z l.toArray (g0r als) ord=true)(hH:b0X E H Hm Hs)
  (h:AB P Γ.N l.toArray als Hs (fun E' H'=>AQ Γ Q .normal E' (H'++Hs)) ord E Hm):AW Γ P Q (.region id l.toArray true) E H:=fun R a W hs0 ha0=>by
 obtain⟨ops,hops⟩: ∃ops,ops=l.toArray:=⟨_,rfl⟩
 rw[←hops]at h hok hals0
 have hals:=hals0
 simp only[r0Z,Bool.and_eq_true,List.all_eq_true,List.mem_range]at hok
 obtain⟨⟨⟨⟨hall,hlt⟩,hbk⟩,hkind⟩,hpairs⟩:=hok
 have hkd: ∀i b,(i,b)∈ord→g0r als i=true→b=true:=fun i b hib e=>by have:=hkind _ hib;simpa[e]using this
 have hback: ∀i o,ops[i]? =some o→ ∀e∈o.after,Region.binds .any e=true→e.on<i:=fun i o ho e he hb=>by
  have hi:i<ops.size:=(Array.getElem?_eq_some_iff.1 ho).1
  have:=hbk i hi
  rw[ho]at this
  simp only[Option.all_some]at this
  have:=Array.all_eq_true_iff_forall_mem.1 this e he
  simpa[hb]using this
 have main: ∀(fuel:Nat) (listed:Array Bool) (A:Act) (W:World) (pre ms:List (Nat×Bool)) (Pd:List Nat) (ea:Nat→Option Nat) (E:Env) (H:List HE) (R:Nat→Prop),fuel=listed.toList.count false→
   NB P Γ ops als Hs (fun E' H'=>AQ Γ Q .normal E' (H'++Hs)) ord listed A W pre ms Pd ea E H R→(ms= []∨ ∃m r,ms=(m,true)::r∧ea m=none)→wpAny P .any ops Q fuel listed A W:=by
  intro fuel
  induction fuel with
  | zero=>
   intro listed A W pre ms Pd ea E H R hc hI hhd
   have hlist: ∀i,i<ops.size→listed.getD i false=true:=by
    intro i hi
    have hi':i<listed.size:=by rw[hI.size];exact hi
    cases hb:listed.getD i false with
    |true=>rfl
    | false=>
     exfalso
     have hm:false∈listed.toList:=by
      rw[←hb];simp[Array.getD,hi']
     have:=List.count_pos_iff.2 hm
     omega
   have hin: ∀i b,(i,b)∈ord→i<ops.size:=fun i b hib=>by have:=hlt _ hib;simpa using this
   have hms:ms= []:=by
    rcases hhd with h|⟨m,r,h,hm0⟩
    ·exact h
    ·have h1:=hin m true (by rw[hI.ord,h];simp)
     have:=(hI.part m h1).2 ⟨.inr (by rw[h];simp),hm0⟩
     rw[hlist m h1]at this;cases this
   have hea: ∀i,ea i=none:=fun i=>by
    cases hea:ea i with
    |none=>rfl
    |some b=>obtain⟨_, -, -,this, -⟩:=hI.eal i b hea;rw[hms]at this;cases this
   have hPd:Pd= []:=by
    rw[List.eq_nil_iff_forall_not_mem]
    intro i hi
    have h1:=hin i false (by rw[hI.ord];exact List.mem_append_left _ (hI.pdp i hi))
    have:=(hI.part i h1).2 ⟨.inl hi,hea i⟩
    rw[hlist i h1]at this;cases this
   subst hms
   subst hPd
   refine⟨?_,hI.am R A W (by have:=hI.rels;rw[h0A hea]at this;exact this) ⟨hI.defers,hI.tmps,fun t v ht=>hI.act t v ht (fun i hi=>(by cases hi)) fun al _ hne=>absurd (hea _) hne⟩⟩
   rw[List.eq_nil_iff_forall_not_mem]
   intro i hi
   obtain⟨h0,o,ho,_⟩:=mem_ready.1 hi
   have hi':i<ops.size:=(Array.getElem?_eq_some_iff.1 ho).1
   have:=hlist i hi'
   rw[←b0a (by rw[hI.size];exact hi')]at this
   rw[this]at h0;cases h0
  | succ fuel ih=>
   intro listed A W pre ms Pd ea E H R hc hI hhd
   have hne: ∃i,i∈Region.ready .any ops listed:=by
    have hex: ∃i,i<ops.size∧listed.getD i false=false:=by
     have hpos:0<listed.toList.count false:=by omega
     obtain⟨i,hi,hf⟩:=List.getElem_of_mem (List.count_pos_iff.1 hpos)
     have hi':i<listed.size:=by simpa using hi
     exact⟨i,by rw[←hI.size];exact hi',by simpa[Array.getD,hi']using hf⟩
    obtain⟨i,⟨hi,hf⟩,hmin⟩: ∃i,(i<ops.size∧listed.getD i false=false)∧ ∀j,j<i→ ¬(j<ops.size∧listed.getD j false=false):=by
     obtain⟨i,h⟩:=hex
     exact m0P ⟨i,h⟩
    have hio:ops[i]? =some ops[i]:=by simp[hi]
    refine⟨i,mem_ready.2 ⟨by rw[b0a (by rw[hI.size];exact hi)];exact hf,_,hio,fun e he hb=> ?_⟩⟩
    have:=hback i _ hio e he hb
    cases hb2:listed.getD e.on false with
    |true=>rfl
    |false=>exact absurd ⟨by omega,hb2⟩ (hmin e.on this)
   refine⟨fun e=>(by obtain⟨i,hi⟩:=hne;rw[e]at hi;cases hi),fun i hi=> ?_⟩
   obtain⟨h0,o,ho,hdeps⟩:=mem_ready.1 hi
   have hio:i<ops.size:=(Array.getElem?_eq_some_iff.1 ho).1
   have hf:listed.getD i false=false:=by rw[←b0a (by rw[hI.size];exact hio)];exact h0
   have hil:i<listed.size:=by rw[hI.size];exact hio
   have hanc: ∀j,j∈(c0P ops.toList []).getD i []→listed.getD j false=true:=fun j hj=>c0M hI.closed hback i o ho hdeps j hj
   have hcl:=c0c hI.closed ho hil hdeps
   have hcnt:fuel=(listed.setIfInBounds i true).toList.count false:=by
    have hcs:=a0T listed.toList i (by simpa using hil) (by simpa[Array.getD,hil]using hf)
    simp only[Array.toList_setIfInBounds]
    omega
   have hgd: ∀k,k≠i→(listed.setIfInBounds i true).getD k false=listed.getD k false:=fun k hk=>getD_set_ne false (Ne.symm hk)
   have hgi:(listed.setIfInBounds i true).getD i false=true:=by simp[Array.getD,hil]
   have hsz:(listed.setIfInBounds i true).size=ops.size:=by simpa using hI.size
   obtain⟨hPm,hni⟩:=(hI.part i hio).1 hf
   cases hfa:r0J als i with
   | some al=>
    obtain⟨halm,hia0⟩:=p0R hfa
    have hia:i=al.i:=hia0.symm
    have hisal:g0r als al.i=true:=by rw[←hia];unfold g0r;rw[hfa];rfl
    obtain⟨oa,hoa,hda,hNa,hga,hopa⟩:=hals.2 al halm
    obtain rfl:o=oa:=by rw[hia,hoa]at ho;exact(Option.some.inj ho).symm
    have hnP:al.i∉Pd:=fun hp=>by
     have:=hkd _ _ (by rw[hI.ord];exact List.mem_append_left _ (hI.pdp _ hp)) hisal
     cases this
    have hmm:(al.i,true)∈ms:=by
     rcases hPm with h1|h1
     ·exact absurd (hia▸h1) hnP
     ·obtain⟨⟨j,c⟩,hq,hji⟩:=List.mem_map.1 h1
      simp only at hji
      have hji':j=al.i:=hji.trans hia
      have:=hkd j c (by rw[hI.ord];exact List.mem_append_right _ hq) (by rw[hji'];exact hisal)
      rw[←hji',←this];exact hq
    have hdd: ∀al'∈als,(al'.i,true)∈ms→al'.i≠al.i→al'.d≠al.d:=fun al' h1 h3 hne e=>by
     obtain⟨oa',hoa',hda', -⟩:=hals.2 al' h1
     have hisal':g0r als al'.i=true:=by unfold g0r;rw[c0x hals.1 h1];rfl
     obtain⟨p,q,hpq⟩:=List.append_of_mem hmm
     have hord:ord=(pre++p)++(al.i,true)::q:=by rw[hI.ord,hpq,List.append_assoc]
     have h4:=a0k (pre:=pre++p) (r:=(al.i,true)::q) (by rw[←hord];exact hpairs)
     rw[hpq]at h3
     rcases List.mem_append.1 h3 with h3|h3
     ·obtain⟨d',g1,g2,g3⟩:=(b0k (h4.2 _ (List.mem_append_right _ h3) _ (List.mem_cons_self ..)) hoa' hoa).flt (.inr hisal)
      rw[hda]at g1;cases g1
      exact g3 (by rw[hda',e])
     ·rcases List.mem_cons.1 h3 with h3|h3
      ·exact hne (congrArg Prod.fst h3)
      ·have h5:=a0k (pre:=pre++p++[(al.i,true)]) (r:=q) (by have:=hord;rw[List.append_assoc _ [(al.i,true)] q,List.singleton_append,←this];exact hpairs)
       obtain⟨d',g1,g2,g3⟩:=(b0k (h5.2 (al.i,true) (by simp) _ h3) hoa hoa').flt (.inr hisal')
       rw[hda']at g1;cases g1
       exact g3 (by rw[hda,e])
    have hs:=hopa R A W hI.rels.rlt (fun e he=>(by cases he)) (fun e he=>(by cases he)) ⟨hI.defers,hI.tmps,fun t v ht=>(by cases ht)⟩
    have hnext: ∀u W',(∃v' Hn R',b0j (fun b=> .val (.pointer (some ⟨b,0,none⟩))) al.T al.room al.xs v' Hn∧Post1 R W v' Hn u W' R')→wpAny P .any ops Q fuel (listed.setIfInBounds i true) (A.put o.dst u) W':=by
     rintro u W' ⟨v',Hn,R',⟨b,rfl,rfl⟩,hp⟩
     have hu:=hp.val.val_inv
     subst hu
     have hrel:RelS Γ R' (H++(c0E als (upd ea al.i (some b))++Hs)) W':=by
      refine(hI.rels.step hp).perm ?_
      show(H++(c0E als (upd ea al.i (some b))++Hs)).Perm (al.he b::(H++(c0E als ea++Hs)))
      refine(((j0A hals.1 halm b (by rw[←hia];exact hni)).append_right Hs).append_left H).trans ?_
      exact List.perm_middle (a:=al.he b) (l₁:=H)
     have hI':NB P Γ ops als Hs (fun E' H'=>AQ Γ Q .normal E' (H'++Hs)) ord (listed.setIfInBounds i true) (A.put o.dst (.pointer (some ⟨b,0,none⟩))) W' pre ms Pd (upd ea al.i (some b)) E H R':=by
      refine⟨hsz,hcl,fun k hk=> ?_,hI.ord,hI.pdp,hI.am,hI.pend,hrel,fun k b' hb'=> ?_,?_,?_,fun t x ht hpd hne=> ?_⟩
      ·by_cases hki:k=i
       ·rw[hki,hgi,hia,c0q]
        simp
       ·rw[hgd k hki,hI.part k hk,b0y _ _ (fun e=>hki (e.trans hia.symm))]
      ·by_cases hki:k=al.i
       ·subst hki
        rw[c0q]at hb'
        cases hb'
        refine⟨al,halm,rfl,hmm,?_⟩
        rw[hda,a0t (by rw[hI.tmps];exact hNa)]
       ·rw[b0y _ _ hki]at hb'
        obtain⟨al',h1,h2,h3,h4⟩:=hI.eal k b' hb'
        refine⟨al',h1,h2,h3,?_⟩
        rw[hda,a0d (fun e=>hdd al' h1 (by rw[h2];exact h3) (fun e2=>hki (h2.symm.trans e2)) e.symm)];exact h4
      ·rw[hda];exact hI.defers
      ·rw[hda];simp[Act.put,hI.tmps]
      ·have hdt:al.d≠t:=fun e=>hne al halm (by rw[c0q];simp) e.symm
       rw[hda,a0d hdt]
       refine(hI.act t x ht hpd fun al' hal' hne' e=> ?_).mono hp.sub (c0D hp.ext hI.rels.rlt)
       by_cases hki:al'.i=al.i
       ·have h9:=c0x hals.1 hal'
        rw[hki,←hia,hfa]at h9
        cases h9
        exact hdt e.symm
       ·exact hne al' hal' (by rw[b0y _ _ hki];exact hne') e
     obtain⟨pre',ms',Pd',ea',E',H',hI2,hh2⟩:=hI'.absorb hpairs hals
     exact ih _ _ _ pre' ms' Pd' ea' E' H' R' hcnt hI2 hh2
    unfold wpOp
    rw[ho]
    show if Region.wanted o (yielded ops A.tmps)=true then _ else _
    rw[if_pos (by unfold Region.wanted;rw[hga])]
    refine .inl (Oper.wp_mono ?_ (a0Z hs))
    rintro A' W' ⟨u,v',Hn,R',rfl,hn,hp⟩
    exact hnext u W' ⟨v',Hn,R',hn,hp⟩
   |none=>
   have hia:g0r als i=false:=by unfold g0r;rw[hfa];rfl
   rcases hPm with hPd|hms
   ·
    obtain⟨o',d,v,ho',hd,hN,hlk,hop⟩:=hI.pend i hPd
    obtain rfl:o=o':=by rw[ho]at ho';exact Option.some.inj ho'
    have hA:=hI.reads hpairs hals ho hdeps (b:=false) (.inl ⟨hI.pdp i hPd,hPd,rfl⟩)
    have hs:=hop R A W hI.rels.rlt (fun e he=>hI.rels.ok e (List.mem_append_right _ (List.mem_append_right _ he))) (fun e he b hb=>(hI.rels.own e (List.mem_append_right _ (List.mem_append_right _ he)) b hb).2) hA
    have hnext: ∀u W',(∃v' Hn R',Is v v' Hn∧Post1 R W v' Hn u W' R')→wpAny P .any ops Q fuel (listed.setIfInBounds i true) (A.put o.dst u) W':=by
     rintro u W' ⟨v',Hn,R',⟨rfl,rfl⟩,hp⟩
     have hnm:i∉ms.map Prod.fst:=fun hm=>by
      obtain⟨⟨j,c⟩,hq,hji⟩:=List.mem_map.1 hm
      have hq2:=(a0k (pre:=pre) (r:=ms) (by rw[←hI.ord];exact hpairs)).2 _ (hI.pdp i hPd) _ hq
      simp only at hji
      subst hji
      exact(b0k hq2 ho ho).ne rfl
     have hdne: ∀al∈als,ea al.i≠none→d≠al.d:=fun al halm hne e=>by
      obtain⟨oa,hoa,hda, -⟩:=hals.2 al halm
      obtain⟨b',hb'⟩:=Option.ne_none_iff_exists'.1 hne
      obtain⟨_, -, -,hmem, -⟩:=hI.eal _ b' hb'
      have hq2:=(a0k (pre:=pre) (r:=ms) (by rw[←hI.ord];exact hpairs)).2 _ (hI.pdp i hPd) _ hmem
      obtain⟨d',h1,h2,h3⟩:=(b0k hq2 ho hoa).flt (.inr (by unfold g0r;rw[c0x hals.1 halm];rfl))
      rw[hda]at h1;cases h1
      exact h3 (by rw[hd,e])
     refine ih _ _ _ pre ms (Pd.filter (· ≠i)) ea E H R' hcnt ⟨hsz,hcl,fun k hk=> ?_,hI.ord,fun k hk=>hI.pdp k (List.mem_filter.1 hk).1,hI.am,fun k hk=>hI.pend k (List.mem_filter.1 hk).1,by simpa using hI.rels.step hp,fun k b' hb'=> ?_,?_,?_,fun t x ht hpd hne=> ?_⟩ hhd
     ·by_cases hki:k=i
      ·subst hki
       rw[hgi]
       simp[hnm]
      ·rw[hgd k hki,hI.part k hk]
       simp[hki]
     ·obtain⟨al,h0,h9,h1,h2⟩:=hI.eal k b' hb'
      refine⟨al,h0,h9,h1,?_⟩
      rw[hd,a0d (hdne al h0 (by rw[h9,hb'];simp))];exact h2
     ·rw[hd];exact hI.defers
     ·rw[hd];simp[Act.put,hI.tmps]
     ·rw[hd]
      by_cases hdt:d=t
      ·subst hdt
       rw[hlk]at ht
       cases ht
       rw[a0t (by rw[hI.tmps];exact hN)];exact hp.val
      ·rw[a0d hdt]
       refine(hI.act t x ht (fun k hk ok hok hdk=> ?_) ?_).mono hp.sub (c0D hp.ext hI.rels.rlt)
       by_cases hki:k=i
       ·subst hki
        rw[ho]at hok
        cases hok
        rw[hd]at hdk
        cases hdk
        exact hdt rfl
       ·exact hpd k (List.mem_filter.2 ⟨hk,by simpa using hki⟩) ok hok hdk
       ·exact hne
    unfold wpOp
    rw[ho]
    unfold c0N at hs
    show if Region.wanted o (yielded ops A.tmps)=true then _ else _
    split
    ·rename_i hw
     rw[if_pos hw]at hs
     refine .inl (Oper.wp_mono ?_ (a0Z hs))
     rintro A' W' ⟨u,rfl,hp⟩
     exact hnext u W' hp
    ·rename_i hw
     rw[if_neg hw]at hs
     exact hnext _ _ hs
   ·
    rcases hhd with rfl|⟨m,r,rfl,hm0⟩
    ·cases hms
    have hmlt:m<ops.size:=by have:=hlt (m,true) (by rw[hI.ord];simp);simpa using this
    have hmf:listed.getD m false=false:=(hI.part m hmlt).2 ⟨.inr (by simp),hm0⟩
    have him:i=m:=by
     rcases List.mem_cons.1 hms with h|h
     ·exact h
     ·exfalso
      obtain⟨⟨j,c⟩,hq,hji⟩:=List.mem_map.1 h
      simp only at hji
      subst hji
      have h9:=(a0k (pre:=pre++[(m,true)]) (r:=r) (by have:=hI.ord;rw[List.append_assoc,List.singleton_append,←this];exact hpairs)).2 (m,true) (by simp) _ hq
      have hom:ops[m]? =some ops[m]:=by simp[hmlt]
      have:=hanc m ((b0k h9 hom ho).main rfl hia)
      rw[hmf]at this;cases this
    subst him
    have ham0:=hI.am
    rw[AB,hfa]at ham0
    obtain⟨o',ho',hAO⟩:=ham0
    obtain rfl:o=o':=by rw[ho]at ho';exact Option.some.inj ho'
    have hA:=hI.reads hpairs hals ho hdeps (b:=true) (.inr ⟨r,rfl,hia⟩)
    have hs:=hAO W R R A W ⟨Mods.refl _ _,hI.rels.rlt,fun _ h=>h,fun _ h=> .inl h,fun e he=>hI.rels.ok e (List.mem_append_left _ he),fun e he b hb=>⟨.inr ⟨e,he,hb⟩,(hI.rels.own e (List.mem_append_left _ he) b hb).2⟩,(List.pairwise_append.1 hI.rels.disj).1⟩ hA
    have hnext: ∀u W',QS ⟨W,a0E H,R,Γ.N⟩ o.dst (fun v H'=>AB P Γ.N ops als Hs (fun E' H'=>AQ Γ Q .normal E' (H'++Hs)) r (a0q o.dst v E) H') .normal (A.put o.dst u) W'→wpAny P .any ops Q fuel (listed.setIfInBounds i true) (A.put o.dst u) W':=by
     rintro u W' ⟨hdf,v,H',R',ham,hsr,hvr⟩
     obtain⟨hrel,hRW⟩:=RelS.part hI.rels hsr
     have hpe: ∀k∈Pd,ea k=none:=fun k hk=>Classical.byContradiction fun hne=>by
      obtain⟨b',hb'⟩:=Option.ne_none_iff_exists'.1 hne
      obtain⟨al,halm,rfl, -, -⟩:=hI.eal _ b' hb'
      have:=hkd _ _ (by rw[hI.ord];exact List.mem_append_left _ (hI.pdp _ hk)) (by unfold g0r;rw[c0x hals.1 halm];rfl)
      cases this
     have hpd: ∀k∈Pd,∀ok,ops[k]? =some ok→ ∀d,o.dst=some d→d∉ok.looksAt ops∧ok.dst≠some d:=fun k hk ok hok d hd=>by
      have h9:=(a0k (pre:=pre) (r:=(i,true)::r) (by rw[←hI.ord];exact hpairs)).2 _ (hI.pdp k hk) (i,true) (List.mem_cons_self ..)
      have hkf:listed.getD k false=false:=(hI.part k (Array.getElem?_eq_some_iff.1 hok).1).2 ⟨.inl hk,hpe k hk⟩
      have hno:k∉(c0P ops.toList []).getD i []:=fun hm=>by
       have:=hanc k hm
       rw[hkf]at this;cases this
      exact⟨fun hm=>hno ((b0k h9 hok ho).mn rfl hia d hd (.inl hm)),fun he=>hno ((b0k h9 hok ho).mn rfl hia d hd (.inr he))⟩
     have hnr:i∉r.map Prod.fst:=fun hm=>by
      obtain⟨⟨j,c⟩,hq,hji⟩:=List.mem_map.1 hm
      have h9:=(a0k (pre:=pre++[(i,true)]) (r:=r) (by have:=hI.ord;rw[List.append_assoc,List.singleton_append,←this];exact hpairs)).2 (i,true) (by simp) _ hq
      simp only at hji
      subst hji
      exact(b0k h9 ho ho).ne rfl
     have hnp:i∉Pd:=fun hk=>by
      have h9:=(a0k (pre:=pre) (r:=(i,true)::r) (by rw[←hI.ord];exact hpairs)).2 _ (hI.pdp i hk) (i,true) (List.mem_cons_self ..)
      exact(b0k h9 ho ho).ne rfl
     have hdne: ∀al∈als,ea al.i≠none→o.dst≠some al.d:=fun al halm hne=>by
      obtain⟨oa,hoa,hda, -⟩:=hals.2 al halm
      have hisal:g0r als al.i=true:=by unfold g0r;rw[c0x hals.1 halm];rfl
      obtain⟨b',hb'⟩:=Option.ne_none_iff_exists'.1 hne
      obtain⟨_, -, -,hmem, -⟩:=hI.eal _ b' hb'
      rcases List.mem_cons.1 hmem with h1|h1
      ·cases h1;rw[hisal]at hia;cases hia
      ·have h9:=(a0k (pre:=pre++[(i,true)]) (r:=r) (by have:=hI.ord;rw[List.append_assoc,List.singleton_append,←this];exact hpairs)).2 (i,true) (by simp) _ h1
       obtain⟨d',h1,h2,h3⟩:=(b0k h9 ho hoa).flt (.inr hisal)
       rw[hda]at h1;cases h1
       exact h3
     have hI':NB P Γ ops als Hs (fun E' H'=>AQ Γ Q .normal E' (H'++Hs)) ord (listed.setIfInBounds i true) (A.put o.dst u) W' (pre++[(i,true)]) r Pd ea (a0q o.dst v E) H' R':=by
      refine⟨hsz,hcl,fun k hk=> ?_,by rw[hI.ord];simp,fun k hk=>List.mem_append_left _ (hI.pdp k hk),ham,fun k hk=> ?_,hrel,fun k b' hb'=> ?_,hdf,?_,fun t x ht hp hne=> ?_⟩
      ·by_cases hki:k=i
       ·subst hki
        rw[hgi]
        simp[hnr,hnp]
       ·rw[hgd k hki,hI.part k hk]
        simp[hki]
      ·obtain⟨ok,dk,vk,h1,h2,h3,h4,h5⟩:=hI.pend k hk
       refine⟨ok,dk,vk,h1,h2,h3,?_,?_⟩
       ·cases hd:o.dst with
        |none=>exact h4
        |some d=>rw[a0q,a0J (fun e=>(hpd k hk ok h1 d hd).2 (by rw[h2,e]))];exact h4
       ·cases hd:o.dst with
        |none=>exact h5
        |some d=>rw[a0q,b0e (hpd k hk ok h1 d hd).1];exact h5
      ·obtain⟨al,h0,h9,h1,h2⟩:=hI.eal k b' hb'
       refine⟨al,h0,h9,(List.mem_cons.1 h1).resolve_left fun e=>(by cases e;rw[hb']at hni;cases hni),?_⟩
       cases hd:o.dst with
       |none=>exact h2
       |some d=>rw[a0d (fun e=>hdne al h0 (by rw[h9,hb'];simp) (by rw[hd,e]))];exact h2
      ·cases hd:o.dst<;>simp[Act.put,hI.tmps]
      ·cases hd:o.dst with
       |none=>
        rw[hd]at ht
        exact(hI.act t x ht hp hne).mono hsr.rsub hRW
       | some d=>
        rw[hd,a0q]at ht
        by_cases hdt:d=t
        ·subst hdt
         rw[b0n]at ht
         cases ht
         have:=hvr d hd
         rwa [hd]at this
        ·rw[a0J hdt]at ht
         rw[a0d hdt]
         exact(hI.act t x ht hp hne).mono hsr.rsub hRW
     obtain⟨pre',ms',Pd',ea',E',H'',hI2,hh2⟩:=hI'.absorb hpairs hals
     exact ih _ _ _ pre' ms' Pd' ea' E' H'' R' hcnt hI2 hh2
    unfold wpOp
    rw[ho]
    unfold wpList at hs
    show if Region.wanted o (yielded ops A.tmps)=true then _ else _
    split
    ·rename_i hw
     rw[if_pos hw]at hs
     refine .inl ?_
     rcases hs with hs|⟨-,a',w',hl⟩
     ·have hs2:o.wp P A W (wpList P ops (QS ⟨W,a0E H,R,Γ.N⟩ o.dst (fun v H'=>AB P Γ.N ops als Hs (fun E' H'=>AQ Γ Q .normal E' (H'++Hs)) r (a0q o.dst v E) H')) []) NoQ:=by
       unfold Oper.wp at hs⊢
       revert hs
       cases(execOp A.eval o).run P W with
       | ok n w'=>
        cases n with
        |enter f args=>
         intro hs
         refine Calls.mono hs ?_
         intro e w'' he
         cases e with
         |returned v=>exact he
         |outgrown=>obtain⟨a',w',hl⟩:=he;exact hl.elim
         |_=>exact he.elim
        |_=>exact fun h=>h
       |halt x w'=>cases x<;>exact fun h=>h
      refine Oper.wp_mono ?_ (a0Z (Oper.wp_put hs2))
      rintro A' W' ⟨hq,hA'⟩
      have hq':QS ⟨W,a0E H,R,Γ.N⟩ o.dst (fun v H'=>AB P Γ.N ops als Hs (fun E' H'=>AQ Γ Q .normal E' (H'++Hs)) r (a0q o.dst v E) H') .normal A' W':=hq
      rcases hA' with⟨u,rfl⟩|hnd
      ·exact hnext u W' hq'
      ·exact absurd hq'.1 hnd
     ·exact hl.elim
    ·rename_i hw
     rw[if_neg hw]at hs
     exact hnext _ _ hs
 have hs:RelS Γ R (Hm++Hs) W.drew:=(RelS.perm ⟨hs0.mods.drew,hs0.rlt,hs0.rsub,hs0.rnew,fun e he=>HE.ok_mono (W:=W) (W':=W.drew) (fun _ h=>h) (fun _ _=>rfl) (Nat.le_refl _) (fun _ _=>rfl) (hs0.ok e he),hs0.own,hs0.disj⟩ hH.symm)
 have ha:RelA Γ.N R W.drew E a:=ha0.mono (fun _ h=>h) (fun _ _=>rfl)
 refine wp_region_any hm ?_
 rw[←hops]
 have hI:NB P Γ ops als Hs (fun E' H'=>AQ Γ Q .normal E' (H'++Hs)) ord (Array.replicate ops.size false) a W.drew [] ord [] (fun _=>none) E Hm R:=by
  refine⟨by simp,fun i o hl=> ?_,fun i hi=> ?_,rfl,fun i hi=>(by cases hi),h,fun i hi=>(by cases hi),by rw[h0A fun _=>rfl];exact hs,fun _ _ h=>(by cases h),ha.defers,ha.size,fun t v ht _ _=>ha.slots t v ht⟩
  ·exfalso
   by_cases h:i<ops.size<;>simp[Array.getD,h]at hl
  ·have:=hall i hi
   simp only[List.contains_eq_mem,cQ]at this
   simp[Array.getD,hi,this]
 obtain⟨pre',ms',Pd',ea',E',H'',hI2,hh2⟩:=hI.absorb hpairs hals
 exact main _ _ _ _ pre' ms' Pd' ea' E' H'' R (by simp) hI2 hh2
theorem AB.op {i d:Nat}{r:List (Nat×Bool)}{E:Env}{H:List HE}{o:Oper}{v:AV}(ho:ops[i]? =some o)(h:OpW P N o (rst E (o.looksAt ops)) Hs (Is v))(hw:a0f ops (rst E (o.looksAt ops)) o=some true)(hd:o.dst=some d)(hN:Nat.ble (d+1) N=true)(k:AB P N ops als Hs K r ((d,v)::E) H):
  AB P N ops als Hs K ((i,false)::r) E H:=⟨o,d,v,ho,hd,lB hN,.run hw h,k⟩
theorem AB.opG {i d:Nat}{r:List (Nat×Bool)}{E:Env}{H:List HE}{o:Oper}{c:Bool}{v:AV}(ho:ops[i]? =some o)(hw:a0S ops (rst E (o.looksAt ops)) o=some c)(hd:o.dst=some d)(hN:Nat.ble (d+1) N=true)(h:c=true→OpW P N o (rst E (o.looksAt ops)) Hs (Is v))(k:AB P N ops als Hs K r ((d,.opt c v)::E) H):
  AB P N ops als Hs K ((i,false)::r) E H:=⟨o,d,_,ho,hd,lB hN,.opt hw h,k⟩
theorem AB.no {i d:Nat}{r:List (Nat×Bool)}{E:Env}{H:List HE}{o:Oper}(ho:ops[i]? =some o)(hw:a0f ops (rst E (o.looksAt ops)) o=some false)(hd:o.dst=some d)(hN:Nat.ble (d+1) N=true)(k:AB P N ops als Hs K r ((d,.val undef)::E) H):
  AB P N ops als Hs K ((i,false)::r) E H:=⟨o,d,_,ho,hd,lB hN,.no hw,k⟩
theorem AB.main {i:Nat}{r:List (Nat×Bool)}{E:Env}{H:List HE}(o:Oper)(ho:ops[i]? =some o)(hne:g0r als i=false)(h: ∀w0 R0,AO ⟨w0,a0E H,R0,N⟩ P ops (QS ⟨w0,a0E H,R0,N⟩ o.dst (fun v H'=>AB P N ops als Hs K r (a0q o.dst v E) H')) [o] (rst E (o.looksAt ops)) H):
  AB P N ops als Hs K ((i,true)::r) E H:=by
 have:r0J als i=none:=by unfold g0r at hne;exact Option.not_isSome_iff_eq_none.1 (by rw[hne];simp)
 rw[AB,this];exact⟨o,ho,h⟩
theorem AB.box {i:Nat}{r:List (Nat×Bool)}{E:Env}{H:List HE}(al:Al)(he:r0J als i=some al)(k: ∀b,AB P N ops als Hs K r ((al.d,.val (.pointer (some ⟨b,0,none⟩)))::E) (al.he b::H)):AB P N ops als Hs K ((i,true)::r) E H:=by rw[AB,he];exact k
theorem alsOk.nil {P:Program}{N:Nat}{ops:Array Oper}:alsOk P N ops []:=⟨.nil,fun _ h=>by cases h⟩
theorem alsOk.cons {P:Program}{N:Nat}{ops:Array Oper}{al:Al}{als:List Al}(h:al.ok P N ops)(hn:(als.map Al.i).contains al.i=false)(hs:alsOk P N ops als):alsOk P N ops (al::als):=by
 refine⟨?_,fun x hx=> ?_⟩
 ·rw[List.map_cons,List.nodup_cons]
  exact⟨fun hm=>(by rw[List.contains_iff_mem.2 hm]at hn;cases hn),hs.1⟩
 ·rcases List.mem_cons.1 hx with e|hx
  ·rw[e];exact h
  ·exact hs.2 x hx
theorem AB.nil {E:Env}{H:List HE}(h:K E H):AB P N ops als Hs K [] E H:=h
end
end Go.Proofs.YtojomcdjcpmnkaaGreat.A
namespace Go.Proofs.YtojomcdjcpmnkaaGreat.By
open Go.RowKit L A
attribute [local irreducible] AW AQ AO
def t0N:It→Prop
 | .mk k n b l=>l= []∧((k=0∨k=7)∧0≤n∧n<24∧b= []∨(k=2∨k=3)∧n=0∧b.length<24)
def okX:Nat→It→Prop
 |0,x=>t0N x
 |d+1,x=>t0N x∨match x with| .mk k n b l=>k=4∧n=0∧b= []∧l.length<24∧ ∀y∈l,okX d y
theorem f0C (k n:Int)(hk:0≤k∧k≤7)(hn:0≤n∧n<24):Sp Tryz.prog 166 [.val (.int .i64 k),.val (.int .u64 n)] [] (b0p 5 1 1 (a0a [u8 (32*k+n)])):=by
 have e:32*k+n=((u8 (32*k+n)).toNat:Int):=by rw[a0I (by omega)]
 have e2:a0e (a0x 1 (Value.int IntKind.u8 0)) (0*1) (AV.val (Value.int IntKind.u8 (32*k+n))).cells=a0a [u8 (32*k+n)]:=by
  show [AV.val (.int .u8 (32*k+n))]= [AV.val (.int .u8 ((u8 (32*k+n)).toNat:Int))]
  rw[←e]
 refine yX Tryz.func166 _ Tryz.ntmps166 (fun w0 R0=> ?_)
 refine zD (zr ?_)
 refine zc (zJ (zn (zD (zr ?_))))
 refine zb ?_
 refine wF ?_
 refine zB ?_
 refine vO (O.conv rfl rfl (by exact wU8 (by omega))) ?_
 refine zR ?_
 intro B1
 refine AO.g ?_
 refine xT B1 1 1 0 rfl rfl rfl (Nat.le_refl _) ?_
 refine AO.u ?_
 dsimp only[List.set]
 refine zc (zJ (zn (zD (zr ?_))))
 refine zc (zJ (zn (zD (xo (zD (zr ?_))))))
 refine zb ?_
 refine vO (O.lss rfl rfl rfl (by exact p0J (by omega))) ?_
 refine zc (zJ (zn ?_))
 refine AW.condT rfl (zD (zr ?_))
 refine zb ?_
 refine wF ?_
 refine vO (O.conv rfl rfl (by exact wU8 (by omega))) ?_
 refine zb ?_
 refine vO (O.conv rfl rfl (by exact wU8 (by omega))) ?_
 refine vO (O.add rfl rfl rfl (by exact wU8 (by omega))) ?_
 refine zR ?_
 intro B2
 refine zc (zJ (zn (xj ?_)))
 refine ww (xx ?_)
 refine AQ.g ?_
 refine G.closeRow (n:=1) (cap:=1) 0 rfl rfl rfl (Nat.le_refl _) (by(unfold maxLen;omega)) ?_
 refine AQ.u ?_
 dsimp only[List.set]
 rw[e2]
 refine vz rfl rfl ⟨_,by repeat(first|exact List.Sublist.slnil|refine List.Sublist.cons_cons _ ?_|refine List.Sublist.cons _ ?_),List.Perm.refl _⟩ (⟨_,rfl,rfl,rfl⟩)
theorem t0h (n:Int)(hn:0≤n∧n<24):Sp Tryz.prog 122 [.agg [.val (.int .i64 0),.val (.int .u64 n),roB [],.ro false 0 []]] [] (Is (roB [u8 (32*0+n)])):=by
 refine yX Tryz.func122 _ Tryz.ntmps122 (fun w0 R0=> ?_)
 refine zD (zr ?_)
 refine yo ?_
 intro B1
 refine zc (zJ (zn (zD (zr ?_))))
 refine zc (zJ (zn (zD (zD (zr ?_)))))
 refine zq ?_
 refine zv (zJ (zn (xo (zD (zD (zr ?_))))))
 refine vO (O.eql rfl rfl rfl (by exact beq_iff_eq.2 (by omega))) ?_
 refine zc (zJ (zn ?_))
 refine AW.condT rfl (y6 (zn ?_))
 refine AW.condT rfl (zD (zr ?_))
 refine zq ?_
 refine zv ?_
 refine zq ?_
 refine zv ?_
 refine vR (xM rfl Tryz.func166 rfl rfl rfl (f0C _ _ ⟨by omega,by omega⟩ ⟨by omega,by omega⟩)) ?_
 intro V2 hV2
 refine zc (zJ (zn (xj ?_)))
 refine ww (xx ?_)
 refine AQ.g ?_
 refine yf 0 [2] ?_
 refine AQ.u ?_
 try dsimp only[List.map,List.eraseIdx,cA,cN]
 refine yM
theorem t0g (n:Int)(hn:0≤n∧n<24):Sp Tryz.prog 122 [.agg [.val (.int .i64 7),.val (.int .u64 n),roB [],.ro false 0 []]] [] (Is (roB [u8 (32*7+n)])):=by
 have e:224+n=((u8 (32*7+n)).toNat:Int):=by rw[a0I (by omega)];omega
 refine yX Tryz.func122 _ Tryz.ntmps122 (fun w0 R0=> ?_)
 refine zD (zr ?_)
 refine yo ?_
 intro B1
 refine zc (zJ (zn (zD (zr ?_))))
 refine zc (zJ (zn (zD (zD (zr ?_)))))
 refine zq ?_
 refine zv (zJ (zn (xo (zD (zD (zr ?_))))))
 refine vO (O.eql rfl rfl rfl (by exact beq_eq_false_iff_ne.2 (by omega))) ?_
 refine zc (zJ (zn ?_))
 refine AW.condF rfl (zr ?_)
 refine vO (O.eql rfl rfl rfl (by exact beq_eq_false_iff_ne.2 (by omega))) ?_
 refine zc (zJ (zn ?_))
 refine AW.condF rfl (zD (zD (zr ?_)))
 refine vO (O.eql rfl rfl rfl (by exact beq_eq_false_iff_ne.2 (by omega))) ?_
 refine zc (zJ (zn ?_))
 refine AW.condF rfl (zr ?_)
 refine vO (O.eql rfl rfl rfl (by exact beq_eq_false_iff_ne.2 (by omega))) ?_
 refine zc (zJ (zn ?_))
 refine AW.condF rfl (zD (zr ?_))
 refine vO (O.eql rfl rfl rfl (by exact beq_eq_false_iff_ne.2 (by omega))) ?_
 refine zc (zJ (zn ?_))
 refine AW.condF rfl (zD (zr ?_))
 refine vO (O.eql rfl rfl rfl (by exact beq_eq_false_iff_ne.2 (by omega))) ?_
 refine zc (zJ (zn ?_))
 refine AW.condF rfl (zD (zr ?_))
 refine vO (O.eql rfl rfl rfl (by exact beq_eq_false_iff_ne.2 (by omega))) ?_
 refine zc (zJ (zn ?_))
 refine AW.condF rfl (zD (zr ?_))
 refine vO (O.eql rfl rfl rfl (by exact beq_iff_eq.2 (by omega))) ?_
 refine zc (zJ (zn ?_))
 refine AW.condT rfl (zD (zD (zr ?_)))
 refine zq ?_
 refine zv ?_
 refine vO (O.lss rfl rfl rfl (by exact p0J (by omega))) (zJ (zn ?_))
 refine AW.condT rfl (zD (zr ?_))
 refine zq ?_
 refine zv ?_
 refine vO (O.add rfl rfl rfl (by exact q0g (by omega))) ?_
 refine vO (O.conv rfl rfl (by exact wU8 (by omega))) ?_
 refine zR ?_
 intro B2
 refine zc (zJ (zn (xj (xx ?_))))
 refine ww (xx ?_)
 refine AQ.g ?_
 refine G.freezeSl 0 2 rfl rfl ⟨Nat.le_refl _,by unfold maxLen;omega⟩ ?_;refine G.unfull 2 rfl ?_
 refine AQ.u ?_
 try dsimp only[List.map,List.eraseIdx,cA,cN]
 refine vz rfl rfl nS (⟨by show AV.ro false 1 [.val (.int .u8 (224+n))]=_;rw[e];rfl,rfl⟩)
theorem t0i (k:Int)(b:List UInt8)(hk:k=2∨k=3)(hb:b.length<24):Sp Tryz.prog 122 [.agg [.val (.int .i64 k),.val (.int .u64 0),roB b,.ro false 0 []]] [] (Is (roB (u8 (32*k+(b.length:Int))::b))):=by
 have e1:a0a [u8 (32*k+(b.length:Int))]++a0a b=a0a (u8 (32*k+(b.length:Int))::b):=rfl
 have e2:1+b.length=(u8 (32*k+(b.length:Int))::b).length:=by rw[cL];omega
 refine yX Tryz.func122 _ Tryz.ntmps122 (fun w0 R0=> ?_)
 refine zD (zr ?_)
 refine yo ?_
 intro B1
 refine zc (zJ (zn (zD (zr ?_))))
 refine zc (zJ (zn (zD (zD (zr ?_)))))
 refine zq ?_
 refine zv (zJ (zn (xo (zD (zD (zr ?_))))))
 refine vO (O.eql rfl rfl rfl (by exact beq_eq_false_iff_ne.2 (by omega))) ?_
 refine zc (zJ (zn ?_))
 refine AW.condF rfl (zr ?_)
 refine vO (O.eql rfl rfl rfl (by exact beq_eq_false_iff_ne.2 (by omega))) ?_
 refine zc (zJ (zn ?_))
 refine AW.condF rfl (zD (zD (zr ?_)))
 refine z8 ?_
 refine zc (zJ (zn ?_))
 rcases hk with rfl|rfl
 ·refine AW.condT rfl (y6 (zn ?_))
  refine AW.condT rfl (zD ?_)
  refine yA 9 ?_
  simp only[cT,cZ,cD,cO]
  refine yw ?_
  refine yU ?_
  refine yw ?_
  refine yU ?_
  refine vP (x3 rfl rfl) ?_
  refine vP (vm rfl rfl) ?_
  refine FA.opN (xM rfl Tryz.func166 rfl rfl rfl (f0C _ _ ⟨by omega,by omega⟩ ⟨by omega,by omega⟩)) rfl rfl rfl rfl ?_
  refine yw ?_
  refine yU ?_
  refine vb ?_
  simp only[a0h,cN,cA,cP]
  rintro _ _ ⟨V2,rfl,hV2,rfl⟩
  simp only[cA,cN]
  refine zF 0 ?_
  intro V3 hV3
  refine zc (zJ (zn (xj ?_)))
  refine ww (xx ?_)
  rw[e1,e2]
  refine AQ.g ?_
  refine yf 0 [2] ?_
  refine AQ.u ?_
  try dsimp only[List.map,List.eraseIdx,cA,cN]
  refine yM
 ·refine AW.condF rfl (zr ?_)
  refine vO (O.eql rfl rfl rfl (by exact beq_iff_eq.2 (by omega))) ?_
  refine zc (zJ (zn ?_))
  refine AW.condT rfl (zD ?_)
  refine yA 9 ?_
  simp only[cT,cZ,cD,cO]
  refine yw ?_
  refine yU ?_
  refine yw ?_
  refine yU ?_
  refine vP (x3 rfl rfl) ?_
  refine vP (vm rfl rfl) ?_
  refine FA.opN (xM rfl Tryz.func166 rfl rfl rfl (f0C _ _ ⟨by omega,by omega⟩ ⟨by omega,by omega⟩)) rfl rfl rfl rfl ?_
  refine yw ?_
  refine yU ?_
  refine vb ?_
  simp only[a0h,cN,cA,cP]
  rintro _ _ ⟨V2,rfl,hV2,rfl⟩
  simp only[cA,cN]
  refine zF 0 ?_
  intro V3 hV3
  refine zc (zJ (zn (xj ?_)))
  refine ww (xx ?_)
  rw[e1,e2]
  refine AQ.g ?_
  refine yf 0 [2] ?_
  refine AQ.u ?_
  try dsimp only[List.map,List.eraseIdx,cA,cN]
  refine yM
 skip
abbrev h0a (x:It):Prop:=Sp Tryz.prog 122 [.agg x.cells] [] (Is (roB x.enc))
theorem l0z {x:It}(h:t0N x):h0a x:=by
 obtain⟨k,n,b,l⟩:=x
 unfold h0a
 rcases h with⟨rfl,⟨rfl|rfl,hn,hn2,rfl⟩|⟨hk,rfl,hb⟩⟩
 ·rw[d0K,It.cells,e0w]
  exact t0h n ⟨hn,hn2⟩
 ·rw[d0K,It.cells,e0w]
  exact t0g n ⟨hn,hn2⟩
 rw[d0K,It.cells,e0w,show hnI k 0 b 0=(b.length:Int)from if_pos hk]
 exact t0i k b hk hb
theorem t0f {l:List It}(hm:l.length<24)(he:(c0n l).length≤100000)(hS: ∀q,q<l.length→h0a (q0d l q)):h0a (.mk 4 0 [] l):=by
 unfold h0a
 rw[k0H]
 show Sp Tryz.prog 122 [.agg [.val (.int .i64 4),.val (.int .u64 0),roB [],.ro false l.length (e0w l)]] [] _
 refine yX Tryz.func122 _ Tryz.ntmps122 (fun w0 R0=> ?_)
 refine zD (zr ?_)
 refine yo ?_
 intro B1
 refine zc (zJ (zn (zD (zr ?_))))
 refine zc (zJ (zn (zD (zD (zr ?_)))))
 refine zq ?_
 refine zv (zJ (zn (xo (zD (zD (zr ?_))))))
 refine vO (O.eql rfl rfl rfl (by exact beq_eq_false_iff_ne.2 (by omega))) ?_
 refine zc (zJ (zn ?_))
 refine AW.condF rfl (zr ?_)
 refine vO (O.eql rfl rfl rfl (by exact beq_eq_false_iff_ne.2 (by omega))) ?_
 refine zc (zJ (zn ?_))
 refine AW.condF rfl (zD (zD (zr ?_)))
 refine vO (O.eql rfl rfl rfl (by exact beq_eq_false_iff_ne.2 (by omega))) ?_
 refine zc (zJ (zn ?_))
 refine AW.condF rfl (zr ?_)
 refine vO (O.eql rfl rfl rfl (by exact beq_eq_false_iff_ne.2 (by omega))) ?_
 refine zc (zJ (zn ?_))
 refine AW.condF rfl (zD (zr ?_))
 refine vO (O.eql rfl rfl rfl (by exact beq_iff_eq.2 (by omega))) ?_
 refine zc (zJ (zn ?_))
 refine AW.condT rfl (zr ?_)
 refine zq ?_
 refine zv ?_
 refine zX ?_
 refine wg ?_
 refine vR (xM rfl Tryz.func166 rfl rfl rfl (f0C _ _ ⟨by omega,by omega⟩ ⟨by omega,by omega⟩)) ?_
 intro V2 hV2
 refine zc (zJ (xE (zn (zD (zD (zr ?_))))))
 refine zq ?_
 refine zp ?_
 refine zX ?_
 refine zb (zJ (zn (xo ?_)))
 have hnl: ∀k,k≤l.length→(c0n (l.take k)).length≤(c0n l).length:=fun k hk=>by
  have h6:=congrArg List.length (g0F (l.take k) (l.drop k))
  rw[List.take_append_drop,cH]at h6
  omega
 obtain⟨h0,hh0⟩: ∃h0,h0=u8 (32*4+(l.length:Int)):=⟨_,rfl⟩
 rw[←hh0]
 refine zi [(67,_),(68,_)] (fun nn E H=> ∃(k:Nat) (V:Value) (o:List UInt8),(k≤l.length)∧(V.oneCell'=true)∧(o=h0::c0n (l.take k))∧nn=l.length-k∧E= [(3,.val V),(69,.val (.int .i64 (k:Int)))]∧H= [.row V 5 1 o.length (a0a o),.blk B1 147 4 [.val (.int .i64 4),.val (.int .u64 0),roB [],.ro false l.length (e0w l)]]) _ (⟨0,_,[h0],by omega,‹_›,rfl,rfl,rfl,rfl⟩) ?_
 rintro nn E H ⟨k,V,o,hk,hV,ho,rfl,rfl,rfl⟩
 dsimp only[cA,cN]
 have hol:o.length=1+(c0n (l.take k)).length:=by rw[ho,cL];omega
 have hkl:=hnl k hk
 refine zD (zr ?_)
 refine zT (zJ (zn (zD ?_)))
 refine yt (fun hlt=> ?_) (fun hlt=> ?_)<;>(try simp only[vT]at hlt)
 ·have hkl:k<l.length:=by omega
  obtain⟨kk,nn',bb,ll,hx⟩: ∃kk nn' bb ll,q0d l k= .mk kk nn' bb ll:=by cases h:q0d l k;exact⟨_,_,_,_,rfl⟩
  have hg:((e0w l).drop (Int.toNat (k:Int)*4)).take 4= [.val (.int .i64 kk),.val (.int .u64 nn'),roB bb,.ro false ll.length (e0w ll)]:=by
   rw[v0C hkl (by omega),hx,It.cells]
  have hSk:=hS k hkl
  rw[hx]at hSk
  unfold h0a at hSk
  rw[It.cells]at hSk
  have hsn:=a0i itN hkl
  have e1:=h0z (l.take k) (q0d l k)
  rw[←hsn,hx]at e1
  have h5:=hnl (k+1) (by omega)
  have e2:=congrArg List.length e1
  rw[cH]at e2
  generalize(It.mk kk nn' bb ll).enc=en at*
  refine y6 (zn (zD (xo (zD (zr ?_)))))
  refine ye ?_
  refine vO (O.loadRK rfl rfl (by exact hg) (by rfl)) ?_
  refine zd ?_
  intro B3
  refine za 0 (zJ (zn (zr ?_)))
  refine zb ?_
  refine vO (O.loadK rfl rfl (by repeat(exact List.Mem.head _)) (by rfl) (by rfl)) ?_
  refine vO (xM rfl Tryz.func122 rfl rfl rfl hSk) ?_
  refine zF 1 ?_
  intro V4 hV4
  refine zc (zJ (xE (zn (zr ?_))))
  refine zB ?_
  refine zb (zJ ?_)
  rw[show a0a o++a0a en=a0a (o++en)from(a0U _ _).symm,show o.length+en.length=(o++en).length from List.length_append.symm]
  refine zL _ _ _ (by omega) (⟨k+1,_,o++en,by omega,‹_›,by rw[ho,e1];rfl,rfl,rfl,rfl⟩)
 obtain rfl:k=l.length:=by omega
 rw[List.take_length]at ho
 subst ho
 refine wj ?_
 refine x8 ?_
 refine wd ?_
 refine xD (zn (zD (zr ?_)))
 refine zb ?_
 refine zc (zJ (zn (xj ?_)))
 refine AQ.g ?_
 refine yf 0 [2] ?_
 refine AQ.u ?_
 try dsimp only[List.map,List.eraseIdx,cA,cN]
 refine yM
theorem g0i: ∀(d:Nat) (x:It),okX d x→x.enc.length≤100000→h0a x
 |0,x,h,_=>l0z h
 |d+1,.mk k n b l,h,he=>by
  rcases h with h|⟨rfl,rfl,rfl,h4,h5⟩
  ·exact l0z h
  have he2:(c0n l).length≤100000:=by rw[k0H,cL]at he;omega
  refine t0f h4 he2 fun q hq=>g0i d _ (h5 _ (b0m itN hq)) ?_
  have h6:=congrArg List.length (g0F (l.take q) (l.drop q))
  have h7:=congrArg List.length (h0z (l.take q) (q0d l q))
  have h8:=congrArg List.length (g0F (l.take (q+1)) (l.drop (q+1)))
  rw[←a0i itN hq]at h7
  rw[List.take_append_drop,cH]at h8
  rw[cH]at h7
  omega
end Go.Proofs.YtojomcdjcpmnkaaGreat.By
namespace Go.Proofs.YtojomcdjcpmnkaaGreat.A
open Go.RowKit L
section
variable {Γ:Cx}{P:Program}{Q:Exit→Act→World→Prop}{E:Env}{H:List HE}{N:Nat}{o:Oper}{ops:Array Oper}{rest:List Oper}
theorem AO.callMV {f:FuncId}{g:Operand}{cap:List AV}{d:Nat}{xs:List Operand}{ats:Array TypeId}{args:List AV}{H0 H1:List HE}{Post:AV→List HE→Prop}{fn:Func}(ho:o.op= .call {callee:= .value g,args:=xs.toArray,argTypes:=ats})(hgd:o.guard=none)(hg:ev E g=some (.fn (.func f) cap))(hfn:P.funcs[f]? =some fn)(hn:(fn.name== "runtime.NumGoroutine")=false)(hb:fn.body.isNone=false)
  (hx:evs E xs=some args) (hd:o.dst=some d) (hN:d<Γ.N) (hH:H.Perm (H0++H1)) (h:Sp P f (args++cap) H0 Post) (next: ∀r H',Post r H'→AO Γ P ops Q rest ((d,r)::E) (H'++H1)):AO Γ P ops Q (o::rest) E H:=fun R a W hs ha=>by
 have hs0:=hs.perm hH.symm
 obtain⟨cs,h4,h5⟩:=(ha.ev hg).fn_inv
 have hrun:(execOp a.eval o).run P W= .ok (.enter f ((xs.map a.eval)++cs).toArray) W:=by
  simp[execOp,ho,resolve,Deferred.ofValue,h4,invoke,callFunc,hfn]
  rw[if_neg (by simpa using hn),if_neg (fun e=>by rw[e]at hb;cases hb)]
 have hc:=h W R (xs.map a.eval++cs) hs.rlt (fun e he=>⟨hs0.ok e (List.mem_append_left _ he),fun b hb=>(hs0.own e (List.mem_append_left _ he) b hb).2⟩) (List.pairwise_append.1 hs0.disj).1 ((ha.evs hx).app h5)
 unfold wpList
 rw[if_pos (by unfold Region.wanted;rw[hgd])]
 refine .inl ?_
 unfold Oper.wp
 rw[hrun]
 refine Calls.mono hc ?_
 rintro e W' ⟨u,r,H',R',rfl,hP,hs',hv⟩
 show wpList P ops Q rest (a.put o.dst u) W'
 rw[hd]
 have hS0: ∀b,a0E H0 b→Γ.w0.heap.size≤b∨Γ.S b:=fun b ⟨e,he,hb⟩=>(hs0.own e (List.mem_append_left _ he) b hb).1
 have hnR: ∀b,a0E H0 b→ ¬R b:=fun b ⟨e,he,hb⟩=>(hs0.own e (List.mem_append_left _ he) b hb).2
 have h1lt: ∀e∈H1,∀b,e.foot b→b<W.heap.size:=fun e he b hb=>HE.ok_lt (hs0.ok e (List.mem_append_right _ he)) hb
 have h10: ∀e∈H1,∀b,e.foot b→ ¬a0E H0 b:=fun e he b hb ⟨f,hf,hb'⟩=>(List.pairwise_append.1 hs0.disj).2.2 f hf e he b hb' hb
 have hR: ∀b,R b→W'.heap[b]? =W.heap[b]? :=fun b hb=>hs'.mods.block b (hs.rlt b hb) fun hh=>hnR b hh hb
 refine next r H' hP R' _ W' ⟨Mods.then hs.mods hs'.mods fun b hb hh=> ?_,hs'.rlt,fun b hb=>hs'.rsub b (hs.rsub b hb),fun b hb=> ?_,?_,?_,?_⟩ ((ha.mono hs'.rsub hR).put hN hv)
 ·rcases hS0 b hh with h|h
  ·omega
  ·exact h
 ·rcases hs'.rnew b hb with h|h|h
  ·exact hs.rnew b h
  ·exact .inr (.inl (Nat.le_trans hs.mods.size h))
  ·exact .inr (hS0 b h)
 ·intro e he
  rcases List.mem_append.1 he with he|he
  ·exact hs'.ok e he
  ·exact HE.ok_mono hs'.rsub hR hs'.mods.size (fun b hb=>hs'.mods.block b (h1lt e he b hb) (h10 e he b hb)) (hs0.ok e (List.mem_append_right _ he))
 ·intro e he b hb
  rcases List.mem_append.1 he with he|he
  ·obtain⟨h2,h3⟩:=hs'.own e he b hb
   refine⟨?_,h3⟩
   rcases h2 with h2|h2
   ·exact .inl (Nat.le_trans hs.mods.size h2)
   ·exact hS0 b h2
  ·refine⟨(hs0.own e (List.mem_append_right _ he) b hb).1,fun hr=> ?_⟩
   rcases hs'.rnew b hr with h|h|h
   ·exact(hs0.own e (List.mem_append_right _ he) b hb).2 h
   ·have h5:=h1lt e he b hb
    exact absurd h (by simpa using h5)
   ·exact h10 e he b hb h
 ·rw[List.pairwise_append]
  refine⟨hs'.disj,(List.pairwise_append.1 hs0.disj).2.1,fun e he f hf b hb hb'=> ?_⟩
  rcases(hs'.own e he b hb).1 with h|h
  ·have h5:=h1lt f hf b hb'
   exact absurd h (by simpa using h5)
  ·exact h10 f hf b hb' h
theorem AO.callMV1 {f:FuncId}{g:Operand}{cap:List AV}{d:Nat}{xs:List Operand}{ats:Array TypeId}{args:List AV}{i:Nat}{e e':HE}{v:AV}{H':List HE}{fn:Func}(ho:o.op= .call {callee:= .value g,args:=xs.toArray,argTypes:=ats})(hgd:o.guard=none)(hg:ev E g=some (.fn (.func f) cap))(hfn:P.funcs[f]? =some fn)(hn:(fn.name== "runtime.NumGoroutine")=false)(hb:fn.body.isNone=false)
  (hx:evs E xs=some args) (hd:o.dst=some d) (hN:Nat.ble (d+1) Γ.N=true) (hi:H[i]? =some e) (h:Sp P f (args++cap) [e] (IsM v e')) (hH:H.set i e'=H') (next:AO Γ P ops Q rest ((d,v)::E) H'):AO Γ P ops Q (o::rest) E H:=
 AO.callMV (H0:= [e]) (H1:=H.eraseIdx i) ho hgd hg hfn hn hb hx hd (lB hN) (e0s hi) h (by
  rintro _ _ ⟨rfl,rfl⟩
  exact AO.perm (by rw[←hH];exact i0b hi) next)
theorem e0p {R:Nat→Prop}{W:World}{a:Act}{low high:Option Operand}{n cap:Nat}{l h:Int}(ha:RelA N R W E a)(hl:d0e E low 0=some l)(hh:d0e E high n=some h)(h0:0≤l∧l≤h∧h≤cap):
  (Instr.sliceBounds false n cap (low.map a.eval) (high.map a.eval) none).run P W= .ok (l.toNat,h.toNat,cap) W:=by
 obtain⟨h1,h2,hhc⟩:=h0
 cases high with
 | none=>
  obtain rfl:(n:Int)=h:=by simpa[d0e]using hh
  cases low with
  |none=>
   obtain rfl:(0:Int)=l:=by simpa[d0e]using hl
   simp[Instr.sliceBounds]
  |some x=>
   obtain⟨k,hk⟩:=e0E ha hl
   simp[Instr.sliceBounds,Instr.sliceBound,hk,asIntOf,h1,h2]
 | some y=>
  obtain⟨k',hk'⟩:=e0E ha hh
  have h4:0≤h:=by omega
  cases low with
  |none=>
   obtain rfl:(0:Int)=l:=by simpa[d0e]using hl
   simp[Instr.sliceBounds,Instr.sliceBound,hk',asIntOf,h4,hhc]
  |some x=>
   obtain⟨k,hk⟩:=e0E ha hl
   have h5:l≤max h 0:=by omega
   simp[Instr.sliceBounds,Instr.sliceBound,hk,hk',asIntOf,h1,h4,hhc]
   omega
theorem O.sliceArr {T:Nat}{x:Operand}{low high:Option Operand}{b off n:Nat}{l h:Int}{sz:Nat}[hs:TyL P T n sz](ho:o.op= .slice T x low high none)(hx:ev E x=some (.val (.pointer (some ⟨b,off,none⟩))))(hl:d0e E low 0=some l)(hh:d0e E high n=some h)(h0:0≤l∧l≤h∧h≤n)
  (hc:l<n):OpW P N o E H (Is (.val (.slice (some ⟨b,off+l.toNat*sz,none⟩) (h.toNat-l.toNat) (n-l.toNat)))):= .of_run fun R a W h1 h2 ha=>by
 obtain⟨U,i,hu,hi,hi2⟩:=hs.ax
 have hb:=e0p (P:=P) (W:=W) ha hl hh h0
 refine⟨_,?_,.val _⟩
 have hne: ¬n=l.toNat:=by omega
 simp only[execOp,ho,(ha.ev hx).val_inv,Instr.sliceAt,Instr.sureAddr,run_underlying hu,Sem.run_bind,Result.andThen_ok,hb,sizeOf,typeInfo,hi,hi2,run_program,Sem.run_pure,Option.map_none]
 simp[hne,a0N]
theorem O.sliceArrR {T:Nat}{x:Operand}{low high:Option Operand}{j n m:Nat}{xs ys:List AV}{l h:Int}{sz:Nat}[hs:TyL P T n sz](ho:o.op= .slice T x low high none)(hx:ev E x=some (.rp xs j))(hl:d0e E low 0=some l)(hh:d0e E high n=some h)(h0:0≤l∧l≤h∧h≤n)
  (hc:l<n) (hn:n≤maxLen) (hm:h.toNat-l.toNat=m) (hy:(xs.drop (j+l.toNat*sz)).take (m*sz)=ys):OpW P N o E H (Is (.ro false m ys)):= .of_run fun R a W h1 h2 ha=>by
 obtain⟨U,i,hu,hi,hi2⟩:=hs.ax
 have hb:=e0p (P:=P) (W:=W) ha hl hh h0
 have hv:=ha.ev hx
 generalize hux:a.eval x=u at*
 cases hv with
 | rp _ _ b off us hb' hcs hr=>
  have hne: ¬n=l.toNat:=by omega
  refine⟨.slice (some ⟨b,off+(j+l.toNat*sz),none⟩) (h.toNat-l.toNat) (n-l.toNat),?_,?_⟩
  ·simp only[execOp,ho,hux,Instr.sliceAt,Instr.sureAddr,run_underlying hu,Sem.run_bind,Result.andThen_ok,hb,sizeOf,typeInfo,hi,hi2,run_program,Sem.run_pure,Option.map_none]
   simp[hne,a0N,Nat.add_assoc]
  ·rw[hm]
   subst hy
   refine .ro _ _ _ b (off+(j+l.toNat*sz)) _ (fun q=>us (j+l.toNat*sz+q)) hb' (fun q hq=> ?_) (fun q hq=> ?_) (by omega) (by omega) (fun h=>by cases h)
   ·simp at hq
    rw[Nat.add_assoc]
    exact hcs _ (by omega)
   ·simp only[List.getElem_take,List.getElem_drop]
    simp at hq
    exact hr _ (by omega)
theorem O.sliceArrK {p q:Nat}{T:Nat}{x:Operand}{low high:Option Operand}{b off n:Nat}{l h:Int}{sz:Nat}[hs:TyL P T n sz](ho:o.op= .slice T x low high none)(hx:ev E x=some (.val (.pointer (some ⟨b,off,none⟩))))(hl:d0e E low 0=some l)(hh:d0e E high n=some h)(e1:l=(p:Int))(e2:h=(q:Int))(h0:p≤q∧q≤n)
  (hc:p<n):OpW P N o E H (Is (.val (.slice (some ⟨b,off+p*sz,none⟩) (q-p) (n-p)))):=by
 subst e1;subst e2
 have:=O.sliceArr (P:=P) (N:=N) (H:=H) ho hx hl hh ⟨by omega,by omega,by omega⟩ (by omega)
 simpa using this
theorem O.sliceArrRK {p q:Nat}{T:Nat}{x:Operand}{low high:Option Operand}{j n:Nat}{xs ys:List AV}{l h:Int}{sz:Nat}[hs:TyL P T n sz](ho:o.op= .slice T x low high none)(hx:ev E x=some (.rp xs j))(hl:d0e E low 0=some l)(hh:d0e E high n=some h)(e1:l=(p:Int))(e2:h=(q:Int))(h0:p≤q∧q≤n)
  (hc:p<n) (hn:n≤maxLen) (hy:(xs.drop (j+p*sz)).take ((q-p)*sz)=ys):OpW P N o E H (Is (.ro false (q-p) ys)):=by
 subst e1;subst e2
 exact O.sliceArrR (P:=P) (N:=N) (H:=H) ho hx hl hh ⟨by omega,by omega,by omega⟩ (by omega) hn (by simp) (by simpa using hy)
theorem O.toArr {T:Nat}{x:Operand}{full:Bool}{n k sz:Nat}{xs:List AV}[hs:TyL P T k sz](ho:o.op= .sliceToArrayPointer T x)(hx:ev E x=some (.ro full n xs))(hk:k≤n)(hk0:0<k):OpW P N o E H (Is (.rp xs 0)):= .of_run fun R a W h1 h2 ha=>by
 obtain⟨U,i,hu,hi,hi2⟩:=hs.ax
 have hv:=ha.ev hx
 generalize hux:a.eval x=u at*
 cases hv with
 |emp _ ad cap h3 h4=>omega
 |ro _ _ _ b off cap us hb' hcs hr h3 h4 h5=>
  refine⟨.pointer (some ⟨b,off,none⟩),?_,?_⟩
  ·simp[execOp,ho,hux,Instr.arrayAt,run_underlying hu,Nat.not_lt.2 hk]
  ·exact .rp xs 0 b off us hb' hcs hr
theorem r0H {p:AV→Bool}: ∀{xs:List AV} (n:Nat),xs.all p=true→(xs.take n).all p=true:=fun{xs} n h=>by
 rw[List.all_eq_true]at h⊢
 exact fun x hx=>h x (List.mem_of_mem_take hx)
theorem AO.copyIn {Td Ts:Nat}{x y:Operand}{b off n c m i T' room U bs:Nat}{full:Bool}{ys xs zs:List AV}{zz:Value}{H':List HE}{d:Option Tmp}[hs:TyS P Td U 1 bs zz](ho:o.op= .call {callee:= .builtin .copy,args:= #[x,y],argTypes:= #[Td,Ts]})(hgd:o.guard=none)
  (hx:ev E x=some (.val (.slice (some ⟨b,off,none⟩) n c))) (hy:ev E y=some (.ro full m ys)) (hlen:ys.length=m) (hone:ys.all AV.one=true) (hi:H[i]? =some (.blk b T' room xs)) (hfit:off+min m n≤xs.length) (hz:a0e xs off (ys.take (min m n))=zs) (hH:H.set i (.blk b T' room zs)=H')
  (hd:o.dst=d) (hN: ∀q,d=some q→q<Γ.N) (next: ∀E',(E'=match d with|some q=>(q,.val (.int .i64 (min m n:Nat)))::E|none=>E)→AO Γ P ops Q rest E' H'):AO Γ P ops Q (o::rest) E H:=fun R a W hs' ha=>by
 have hmem:=List.mem_of_getElem? hi
 obtain⟨us,cs,hb,hsz,ht,hr⟩:=hs'.ok _ hmem
 have hxs:xs.length≤cs.size:=by
  have:=hr.1
  have h5:cs.toList.length=cs.size:=Array.length_toList
  rw[←ht,List.length_take]at this;omega
 obtain⟨vs,hvl,hvr,hrun⟩: ∃vs:List Value,vs.length=min m n∧RelL R W (ys.take (min m n)) vs∧(Builtin.copy_ #[Td,Ts] o.type #[a.eval x,a.eval y]).run P W= .ok (goInt ((min m n:Nat):Int)) (if min m n=0 then W else W.setRow b (cs.toList.take off++vs++cs.toList.drop (off+min m n)).toArray):=by
  obtain⟨inf,hi1,hi2, -⟩:=hs.el
  have hsz1:(P.info? U).map (·.size)=some 1:=by rw[hi1];simp[hi2]
  have hvx:=(ha.ev hx).val_inv
  have hvy:=ha.ev hy
  rw[hvx]
  generalize hux:a.eval y=u at*
  cases hvy with
  |emp _ ad cap h3 h4=>
   refine⟨[],by simp,⟨by simp,by simp⟩,?_⟩
   have:=run_copy_none (P:=P) W Td Ts o.type U (some ⟨b,off,none⟩) ad n c 0 cap hs.ty hsz1 (by simp)
   rw[this];simp[Nat.min_eq_left (Nat.zero_le n)]
  | ro _ _ _ b2 off2 cap us2 hb' hcs hr2 h3 h4 h5=>
   by_cases h0:min m n=0
   ·refine⟨[],by simp[h0],by rw[h0];exact⟨by simp,by simp⟩,?_⟩
    have:=run_copy_none (P:=P) W Td Ts o.type U (some ⟨b,off,none⟩) (some ⟨b2,off2,none⟩) n c m cap hs.ty hsz1 h0
    rw[this,if_pos h0,h0];rfl
   ·let vs:=(List.range (min m n)).map us2
    have hvs: ∀q (hq:q<min m n),vs[q]? =some (us2 q):=fun q hq=>by simp[vs,hq]
    have hvsl:vs.length=min m n:=by simp[vs]
    refine⟨vs,hvsl,⟨by rw[List.length_take,hvsl,hlen];omega,fun q hq=> ?_⟩,?_⟩
    ·rw[List.length_take,hlen]at hq
     have hq':q<min m n:=by omega
     have:=hr2 q (by rw[hlen];omega)
     simp only[List.getElem_take]
     rw[List.getD,hvs q hq']
     exact this
    ·have h1: ∀v∈vs,v.oneCell'=true:=fun v hv=>by
      obtain⟨q,hq,rfl⟩:=List.mem_map.1 hv
      have hq:=List.mem_range.1 hq
      have hql:q<ys.length:=by rw[hlen];omega
      exact(hr2 q hql).one (by rw[List.all_eq_true]at hone;exact hone _ (List.getElem_mem hql))
     have:=run_copy_row (P:=P) W Td Ts o.type U b off n c ⟨b2,off2,none⟩ m cap cs T' vs hs.ty hsz1 hb (by rw[hvsl]) (fun q v hq=>by
      have hql:q<min m n:=by have:=(List.getElem?_eq_some_iff.1 hq).1;omega
      rw[hvs q hql]at hq
      cases hq
      rw[a0N]
      exact hcs q (by rw[hlen];omega)) (by rw[hvsl];omega) h1
     rw[this,if_neg h0,hvsl]
 have hone': ∀v∈vs,v.oneCell'=true:=fun v hv=>by
  obtain⟨q,hq,rfl⟩:=List.getElem_of_mem hv
  have hql:q<(ys.take (min m n)).length:=by rw[←hvr.1];exact hq
  have h6:=hvr.2 q hql
  have h7:=r0H (min m n) hone
  rw[List.all_eq_true]at h7
  have:=h6.one (h7 _ (List.getElem_mem hql))
  simpa[List.getD,hq]using this
 have hylen:(ys.take (min m n)).length=min m n:=by rw[←hvr.1,hvl]
 unfold wpList
 rw[if_pos (by unfold Region.wanted;rw[hgd])]
 refine .inl ?_
 unfold Oper.wp
 have hex:(execOp a.eval o).run P W= .ok (.value (.int .i64 (min m n:Nat))) (if min m n=0 then W else W.setRow b (cs.toList.take off++vs++cs.toList.drop (off+min m n)).toArray):=by
  simp[execOp,ho,resolve,invoke,builtin,hrun,Result.andThen,goInt]
 rw[hex]
 show wpList P ops Q rest (a.put o.dst _) _
 rw[hd]
 subst hH
 by_cases h0:min m n=0
 ·rw[if_pos h0]
  have hzx:zs=xs:=by
   rw[←hz]
   have:ys.take (min m n)= []:=by rw[h0];rfl
   rw[this];rfl
  have hset:H.set i (.blk b T' room zs)=H:=by
   rw[hzx]
   obtain⟨hil,he⟩:=List.getElem?_eq_some_iff.1 hi
   rw[←he];exact List.set_getElem_self hil
  refine next _ rfl R _ W (by rw[hset];exact hs') ?_
  cases d with
  |none=>exact ha.none _
  |some q=>exact ha.put (hN q rfl) (.val _)
 ·rw [if_neg h0]
  have hm:Mods (fun c=>(HE.blk b T' room xs).foot c) W (W.setRow b (cs.toList.take off++vs++cs.toList.drop (off+min m n)).toArray):=Mods.setRow (S:=fun c=>(HE.blk b T' room xs).foot c) (Mods.refl _ _) (fun _=>rfl) _
  have hR: ∀c,R c→(W.setRow b (cs.toList.take off++vs++cs.toList.drop (off+min m n)).toArray).heap[c]? =W.heap[c]? :=fun c hc=>hm.block c (hs'.rlt c hc) fun hh=>(hs'.own _ hmem c hh).2 hc
  have hok:(HE.blk b T' room zs).ok R (W.setRow b (cs.toList.take off++vs++cs.toList.drop (off+min m n)).toArray):=by
   refine⟨_,_,setRow_heap W b cs _ T' _ hb,?_,rfl,?_⟩
   ·rw[List.size_toArray,cH,cH,List.length_take,List.length_drop,Array.length_toList,hvl];omega
   ·rw [←hz,c0I _ _ _ (by rw[hylen];omega),hylen]
    have e:(cs.toList.take off++vs++cs.toList.drop (off+min m n)).take (xs.take off++ys.take (min m n)++xs.drop (off+min m n)).length=us.take off++vs++us.drop (off+min m n):=by
     have hul:us.length=xs.length:=hr.1
     generalize hzz:ys.take (min m n)=zz at*
     generalize min m n=k at*
     apply List.ext_getElem?
     intro q
     subst ht
     simp only[List.getElem?_take,List.getElem?_append,cH,List.length_take,List.length_drop,hvl,hylen,Array.length_toList,List.getElem?_drop]
     by_cases q1:q<off
     ·simp[q1,show q<xs.length by omega,show q<min off xs.length+k+(xs.length-(off+k)) by omega,show q<min off cs.size+k by omega,show q<min off cs.size by omega,show q<min off (min xs.length cs.size)+k by omega,show q<min off (min xs.length cs.size) by omega]
     ·by_cases q2:q<off+k
      ·simp[show min off xs.length=off by omega,show min off cs.size=off by omega,show min xs.length cs.size=xs.length by omega,q1,q2,show q<off+k+(xs.length-(off+k)) by omega]
      ·by_cases q3:q<xs.length
       ·simp[show min off xs.length=off by omega,show min off cs.size=off by omega,show min xs.length cs.size=xs.length by omega,q1,q2,show q<off+k+(xs.length-(off+k)) by omega,show off+k+(q-(off+k))<xs.length by omega]
       ·simp[show min off xs.length=off by omega,show min off cs.size=off by omega,show min xs.length cs.size=xs.length by omega,q1,q2,show ¬q<off+k+(xs.length-(off+k)) by omega,show ¬off+k+(q-(off+k))<xs.length by omega]
    show RelL R _ _ (List.take _ (cs.toList.take off++vs++cs.toList.drop (off+min m n)))
    rw[e]
    exact(((hr.take off).app hvr).app (hr.drop (off+min m n))).mono (fun _ h=>h) hR
  have hs2:=hs'.setEntry (e':= .blk b T' room zs) hi hm (fun c hc=> .inl hc) hok
  refine next _ rfl R _ _ hs2 ?_
  cases d with
  |none=>exact(ha.keep hR).none _
  |some q=>exact(ha.keep hR).put (hN q rfl) (.val _)
def Plain (v:AV):Prop:=(∃c,v= .val c)∨ ∃xs,v= .agg xs∧ ∀x∈xs,∃c,x= .val c
theorem Plain.val {c:Value}:Plain (.val c):= .inl ⟨c,rfl⟩
theorem Plain.rel {v:AV}(h:Plain v){R R':Nat→Prop}{W W':World}{u:Value}(hv:RelV R W v u):RelV R' W' v u:=by
 rcases h with⟨c,rfl⟩|⟨xs,rfl,hx⟩
 ·rw[hv.val_inv];exact .val _
 ·cases hv with
  |agg _ cs hs hr=>
   refine .agg _ cs hs fun j hj=> ?_
   obtain⟨c,hc⟩:=hx xs[j] (List.getElem_mem hj)
   have:=hr j hj
   rw[hc]at this⊢
   rw[this.val_inv];exact .val _
inductive LendB (b:Nat) (ys:List AV):List AV→List AV→Prop
 |nil:LendB b ys [] []
 |same {a:AV} {r r':List AV}:LendB b ys r r'→LendB b ys (a::r) (a::r')
 |lend {j:Nat} {r r':List AV}:LendB b ys r r'→LendB b ys (.val (.pointer (some ⟨b,j,none⟩))::r) (.rp ys j::r')
theorem v0S {R:Nat→Prop}{W:World}{b T room j:Nat}{xs:List AV}(h:HE.ok R W (.blk b T room xs)):RelV (fun c=>R c∨c=b) W (.rp xs j) (.pointer (some ⟨b,j,none⟩)):=by
 have:=RelV.rp (R:=fun c=>R c∨c=b) (W:=W) xs j b 0 (fun q=>(W.cell? ⟨b,0+q,none⟩).getD undef) (.inr rfl) (fun q hq=>by
  obtain⟨u,hu,_⟩:=e0F h (j:=q) (v:=xs[q]) (by simp[hq])
  rw[Nat.zero_add,hu];rfl) (fun q hq=>by
  obtain⟨u,hu,hr⟩:=e0F h (j:=q) (v:=xs[q]) (by simp[hq])
  rw[Nat.zero_add,hu]
  exact hr.mono (fun _ h=> .inl h) (fun _ _=>rfl))
 simpa using this
theorem LendB.rel {R:Nat→Prop}{W:World}{b T room:Nat}{xs:List AV}(h:HE.ok R W (.blk b T room xs)){a a':List AV}(hl:LendB b xs a a'): ∀{us:List Value},RelL R W a us→RelL (fun c=>R c∨c=b) W a' us:=by
 induction hl with
 |nil=>intro us h;exact h.mono (fun _ h=> .inl h) (fun _ _=>rfl)
 |same _ ih=>
  intro us h
  obtain⟨u,r,rfl,h1,h2⟩:=h.uncons
  exact RelL.cons (h1.mono (fun _ h=> .inl h) (fun _ _=>rfl)) (ih h2)
 |lend _ ih=>
  intro us h'
  obtain⟨u,r,rfl,h1,h2⟩:=h'.uncons
  rw[h1.val_inv]
  exact RelL.cons (v0S h) (ih h2)
theorem O.callLB {f:FuncId}{xs:List Operand}{ats:Array TypeId}{args args':List AV}{v:AV}{b T room:Nat}{ys:List AV}{fn:Func}(ho:o.op= .call {callee:= .value (.func f),args:=xs.toArray,argTypes:=ats})(hfn:P.funcs[f]? =some fn)(hn:(fn.name== "runtime.NumGoroutine")=false)(hb:fn.body.isNone=false)
  (hx:evs E xs=some args) (hm:HE.blk b T room ys∈H) (h:Sp P f args' [] (Is v)) (hp:Plain v) (hl:LendB b ys args args'):OpW P N o E H (Is v):=fun R a W h0 h2 h3 ha=>by
 have hlt: ∀c,R c∨c=b→c<W.heap.size:=by
  rintro c (hb|rfl)
  ·exact h0 c hb
  ·exact HE.ok_lt (h2 _ hm) rfl
 unfold Oper.wp
 rw[b0P ho hfn hn hb,List.map_toArray]
 have hc:=h W _ (xs.map a.eval) hlt (fun e he=>by cases he) .nil (hl.rel (h2 _ hm) (ha.evs hx))
 refine Calls.mono hc ?_
 rintro e W' ⟨u,r,H',R',rfl,⟨rfl,rfl⟩,hs,hv⟩
 have p:=e0y hs hv hlt
 exact⟨u,r,[],R,rfl,⟨rfl,rfl⟩,p.ext,fun _ h=>h,fun _ h=> .inl h,hp.rel hv,fun _ he=>(by cases he),.nil⟩
end
theorem s0K {a b:Int}(h:0≤a):a.tmod b=a%b:=Int.tmod_eq_emod_of_nonneg h
theorem vt {a b:Int}(h:0≤a:=by omega):a.tmod b=a%b:=s0K h
theorem w0D {a b:Int}(h:0≤a∧a≤9223372036854775807)(hb:0<b):IntKind.i64.wrap (a.tdiv b)=a/b:=by
 rw[Int.tdiv_eq_ediv_of_nonneg h.1]
 have h1:0≤a/b:=Int.ediv_nonneg h.1 (by omega)
 have h2:a/b≤a:=Int.ediv_le_self b h.1
 exact e0J ⟨by omega,by omega⟩
theorem vF {a b:Int}(h:0≤a∧a≤9223372036854775807:=by exact⟨by omega,by omega⟩)(hb:0<b:=by omega):IntKind.i64.wrap (a.tdiv b)=a/b:=w0D h hb
def fnB (n:Nat)(f:Nat→UInt8):List UInt8:=(List.range n).map f
def arB (n:Nat)(f:Nat→UInt8):List AV:=a0a (fnB n f)
theorem a0L (n:Nat)(f:Nat→UInt8):(fnB n f).length=n:=by simp[fnB]
theorem a0b (n:Nat)(f:Nat→UInt8):(arB n f).length=n:=by simp[arB,a0a,fnB]
theorem d0i (n:Nat)(f:Nat→UInt8):arB n f=(List.range n).map fun q=>AV.val (.int .u8 ((f q).toNat:Int)):=by simp[arB,a0a,fnB,Function.comp_def]
theorem a0o {n:Nat}{f:Nat→UInt8}{k:Nat}(h:k<n){j:Nat}(hj:j=k):(arB n f)[j]? =some (.val (.int .u8 ((f k).toNat:Int))):=by subst hj;rw[d0i];simp[h]
theorem c0g {n:Nat}{f g:Nat→UInt8}(h: ∀q,q<n→f q=g q):fnB n f=fnB n g:=List.map_congr_left fun q hq=>h q (List.mem_range.1 hq)
theorem a0c {n:Nat}{f g:Nat→UInt8}(h: ∀q,q<n→f q=g q):arB n f=arB n g:=congrArg a0a (c0g h)
theorem v0E {n:Nat}{f:Nat→UInt8}{j k:Nat}(h:j+k≤n):((fnB n f).drop j).take k=fnB k fun q=>f (j+q):=by
 apply List.ext_getElem?
 intro q
 by_cases hq:q<k
 ·simp[fnB,hq,List.getElem?_take,show j+q<n by omega]
 ·simp[fnB,hq,List.getElem?_take]
theorem h0F {n:Nat}{f:Nat→UInt8}{j k:Nat}(h:j+k≤n):((arB n f).drop j).take k=arB k fun q=>f (j+q):=by
 rw[arB,a0a,←List.map_drop,←List.map_take,v0E h];rfl
theorem d0z (n:Nat)(f:Nat→UInt8):(arB n f).all AV.one=true:=by
 rw[List.all_eq_true,d0i]
 intro x hx
 obtain⟨q,_,rfl⟩:=List.mem_map.1 hx
 rfl
theorem o0D (n:Nat)(f:Nat→UInt8):Plain (.agg (arB n f)):= .inr ⟨_,rfl,fun x hx=>by
 rw[d0i]at hx
 obtain⟨q,_,rfl⟩:=List.mem_map.1 hx
 exact⟨_,rfl⟩⟩
theorem a0P {n:Nat}{f:Nat→UInt8}{k:Nat}(h:k<n)(v:UInt8){j:Nat}(hj:j=k):a0e (arB n f) j [.val (.int .u8 (v.toNat:Int))]=arB n (fun q=>if q=k then v else f q):=by
 subst hj
 show(arB n f).set j _=_
 apply List.ext_getElem?
 intro q
 rw[List.getElem?_set,d0i,d0i]
 by_cases hq:q<n
 ·by_cases e:j=q
  ·subst e;simp[h]
  ·simp[hq,e,show ¬q=j from fun e'=>e e'.symm]
 ·by_cases e:j=q
  ·subst e;omega
  ·simp[hq,e]
theorem d0P {n:Nat}{f g:Nat→UInt8}{j k:Nat}(h:j+k≤n):a0e (arB n f) j (arB k g)=arB n (fun q=>if j≤q∧q<j+k then g (q-j)else f q):=by
 rw[c0I _ _ _ (by rw[a0b,a0b];omega),a0b]
 apply List.ext_getElem?
 intro q
 simp only[List.getElem?_append,cH,List.length_take,a0b,List.getElem?_take,List.getElem?_drop]
 rw[d0i,d0i,d0i]
 by_cases q1:q<j
 ·simp[q1,show q<n by omega,show q<min j n+k by omega,show q<min j n by omega,show ¬j≤q by omega]
 ·by_cases q2:q<j+k
  ·simp[q1,q2,show min j n=j by omega,show j≤q by omega,show q-j<k by omega,show q<n by omega]
  ·by_cases q3:q<n
   ·simp[q1,q2,q3,show min j n=j by omega,show j+k+(q-(j+k))=q by omega]
   ·simp[q1,q2,q3,show min j n=j by omega,show n≤j+k+(q-(j+k)) by omega]
theorem g0b {xs cs:List AV}(h:xs.length=cs.length):a0e xs 0 cs=cs:=by
 rw[c0I _ _ _ (by omega)]
 simp[h]
theorem b0K {xs:List AV}{n:Nat}{f:Nat→UInt8}(h:xs.length=n):a0e xs 0 (arB n f)=arB n f:=g0b (by rw[h,a0b])
theorem b0L (n:Nat)(f:Nat→UInt8):roB (fnB n f)= .ro false n (arB n f):=by unfold roB;rw[a0L];rfl
end Go.Proofs.YtojomcdjcpmnkaaGreat.A
namespace Go.Proofs.YtojomcdjcpmnkaaGreat.By
open Go.RowKit L A
def beB:Nat→Nat→List UInt8
 |0,_=> []
 |k+1,n=>beB k (n/256)++[UInt8.ofNat n]
def m0T (m n:Nat):List UInt8:=
 if n<24 then [UInt8.ofNat (32*m+n)]else if n<256 then UInt8.ofNat (32*m+24)::beB 1 n else if n<65536 then UInt8.ofNat (32*m+25)::beB 2 n
 else if n<4294967296 then UInt8.ofNat (32*m+26)::beB 4 n else UInt8.ofNat (32*m+27)::beB 8 n
def c0H (b:List UInt8):List UInt8:=m0T 2 b.length++b
def l0e (b:List UInt8):List UInt8:=m0T 3 b.length++b
def f0q (n:Nat):List UInt8:=m0T 0 n
def g0U (l:List (List UInt8)):List UInt8:=m0T 4 l.length++l.flatten
def f0b (id ctx:List UInt8)(has:Bool)(kind:List UInt8)(n:Nat):List UInt8:=g0U [c0H id,if has then c0H ctx else [0xf6],f0q 10,l0e kind,f0q n]
def p0c:List UInt8:= [75,101,121]
def ivT:List UInt8:= [73,86]
def i0E:List UInt8:= [69,110,99,114,121,112,116,48]
def u0p (kid pb:List UInt8):List UInt8:=g0U [l0e i0E,c0H [],c0H (g0U [f0q 1,g0U [f0q 10],c0H kid,c0H pb,c0H []])]
def nF (c id:List UInt8)(piv:Int)(i j q:Nat):UInt8:=
 ((c.getD q 0^^^ (if q=0 then u8 (id.length:Int)else 0))^^^ (if 8-id.length≤q∧q<8-id.length+i then id.getD (q-(8-id.length)) 0 else 0))^^^ (if 13-j≤q∧q<13 then u8 (piv/2^ (8*(12-q)))else 0)
theorem v0q {c id:List UInt8}{piv:Int}{i:Nat}(hl:id.length≤7)(hi:i<id.length)(q:Nat):
  (if q=8-id.length+i then nF c id piv i 0 (8-id.length+i)^^^id.getD i 0 else nF c id piv i 0 q)=nF c id piv (i+1) 0 q:=by
 have h13: ∀p:Nat,¬(13-0≤p∧p<13):=fun p=>by omega
 by_cases h:q=8-id.length+i
 ·subst h
  rw[if_pos rfl]
  unfold nF
  rw[if_neg (h13 _),if_neg (show ¬(8-id.length≤8-id.length+i∧8-id.length+i<8-id.length+i) by omega),if_pos (show 8-id.length≤8-id.length+i∧8-id.length+i<8-id.length+(i+1) by omega),
   show 8-id.length+i-(8-id.length)=i by omega]
  simp
 rw[if_neg h]
 unfold nF
 rw[if_neg (h13 _)]
 by_cases h2:8-id.length≤q∧q<8-id.length+i
 ·rw[if_pos h2,if_pos (show 8-id.length≤q∧q<8-id.length+(i+1) by omega)]
 rw[if_neg h2,if_neg (show ¬(8-id.length≤q∧q<8-id.length+(i+1)) by omega)]
theorem s0d {c id:List UInt8}{piv:Int}{i j:Nat}(hj:j<5)(q:Nat):
  (if q=12-j then nF c id piv i j (12-j)^^^u8 (piv/2^ (8*j))else nF c id piv i j q)=nF c id piv i (j+1) q:=by
 by_cases h:q=12-j
 ·subst h
  rw[if_pos rfl]
  unfold nF
  rw[if_neg (show ¬(13-j≤12-j∧12-j<13) by omega),if_pos (show 13-(j+1)≤12-j∧12-j<13 by omega),show 12-(12-j)=j by omega]
  simp
 rw[if_neg h]
 unfold nF
 by_cases h2:13-j≤q∧q<13
 ·rw[if_pos h2,if_pos (show 13-(j+1)≤q∧q<13 by omega)]
 rw[if_neg h2,if_neg (show ¬(13-(j+1)≤q∧q<13) by omega)]
def l0N (c id:List UInt8)(piv:Int):List UInt8:=fnB 13 (nF c id piv id.length 5)
def b0S (c id:List UInt8)(piv:Int):List UInt8×Int:=
 if c.length≠13∨7<id.length then([],1)else if piv<0∨1099511627775<piv then([],8)else(l0N c id piv,0)
end Go.Proofs.YtojomcdjcpmnkaaGreat.By
namespace Go.Proofs.YtojomcdjcpmnkaaGreat.By
open Go.RowKit L A Dk
attribute [local irreducible] AW AQ AO
def Gen (b:Nat)(l:List Int)(Φ:AV→Prop):AV→List HE→Prop:=fun r H'=>Φ r∧ ∃k,k≤l.length∧H'= [g0Y b l k]
def x0g (n:Int)(r:AV):Prop:= ∃z:Int,0≤z∧z<n∧r= .val (.int .i64 z)
def q0a (n:Nat)(r:AV):Prop:= ∃x:List UInt8,x.length≤n∧r=roB x
def v0Z (Φ:AV→Prop):AV→List HE→Prop:=fun r H'=>Φ r∧H'= []
theorem b0q (b:Nat)(l:List Int)(k:Nat)(n:Int)(hl:l.length≤maxLen)(hk:k≤l.length)(hn1:0<n)(hn2:n≤4611686018427387904):
  Sp Tryz.prog 33 [ptr b,.val (.int .i64 n)] [g0Y b l k] (Gen b l (x0g n)):=
 (g0o b l k n hl hk hn1 hn2).mono fun r H' ⟨h1,h2⟩=>⟨⟨_,(e0a l k hn1).1,(e0a l k hn1).2,h1⟩,_,d0f hk,h2⟩
theorem g0K (b:Nat)(l:List Int)(k:Nat)(n:Nat)(hl:l.length≤maxLen)(hk:k≤l.length)(hn:n≤1000000):
  Sp Tryz.prog 24 [ptr b,.val (.int .i64 (n:Int))] [g0Y b l k] (Gen b l (q0a n)):=by
 refine yX Tryz.func24 _ Tryz.ntmps24 (fun w0 R0=> ?_)
 refine zD (zr ?_)
 refine zc (zJ (zn (zD (zr ?_))))
 refine zc (zJ (zn (zD (zD (zr ?_)))))
 refine zb ?_
 refine zb ?_
 refine zB ?_
 refine AO.callMG 0 rfl rfl Tryz.func33 rfl rfl rfl rfl rfl rfl (b0q _ l _ _ hl (by assumption) (by omega) (by omega)) ?_
 rintro _ _ ⟨⟨z,hz0,hz1,rfl⟩,kd,hkd,rfl⟩
 dsimp only[cA,cN,List.eraseIdx]
 refine zc (zJ (zn (xo ?_)))
 obtain⟨c,rfl⟩: ∃c:Nat,z=(c:Int):=⟨z.toNat,by omega⟩
 refine AW.g ?_
 refine G.nilRow 5 1 ?_
 refine AW.u ?_
 refine AW.loopK [(0,_)] (fun nn E H=> ∃(c':Nat) (out:List UInt8) (V:Value) (kk:Nat),(out.length+c'≤n)∧(V.oneCell'=true)∧(kk≤l.length)∧c'=nn∧E= [(5,.val V),(6,.val (.int .i64 (c':Int)))]∧H= [.row V 5 1 out.length (a0a out),g0Y b l kk]) _ (⟨c,[],.slice none 0 0,kd,by simp<;>omega,rfl,hkd,rfl,rfl,rfl⟩) (by repeat(first|exact a0l|refine a0j rfl ?_)) (by repeat(first|exact a0l|refine a0j rfl ?_)) (by repeat(first|exact a0H|refine a0B 0 rfl ?_)) ?_
 rintro nn E H ⟨c',out,V,kk,h1,hV,h3,rfl,rfl,rfl⟩
 dsimp only[cA,cN]
 refine zD (zD (zr ?_))
 refine zb ?_
 refine yZ (zJ (zn ?_))
 refine yt (fun h=> ?_) (fun h=> ?_)<;>(try simp only[vT]at h)
 ·obtain⟨j,rfl⟩: ∃j,c'=j+1:=⟨c'-1,by omega⟩
  refine y6 (zn (zD (xo (zr ?_))))
  refine zb ?_
  refine zb ?_
  refine AO.callMG 1 rfl rfl Tryz.func33 rfl rfl rfl rfl rfl rfl (b0q _ l _ _ hl (by assumption) (by omega) (by omega)) ?_
  rintro _ _ ⟨⟨z,hz0,hz1,rfl⟩,kd,hkd,rfl⟩
  dsimp only[cA,cN,List.eraseIdx]
  refine xg ?_
  refine zR ?_
  intro B
  refine AO.g ?_
  refine yi 0 19 ?_
  refine wm 19 ?_
  refine AO.u ?_
  dsimp only[List.eraseIdx]
  refine zy 1 ?_
  intro V hV
  refine zc (zJ (xE (zn (zr ?_))))
  refine zb ?_
  refine yN ?_
  refine zc (zJ ?_)
  rw[show((j+1:Nat):Int)-1=(j:Int) by omega]
  refine AQ.loopKN _ _ _ (by omega) (⟨j,out++[u8 z],V,kd,by simp;omega,hV,hkd,rfl,rfl,by rw[a0U,cH]<;>rfl⟩) (by repeat(first|exact a0l|refine a0j rfl ?_)) (by repeat(first|exact a0l|refine a0j rfl ?_)) (by repeat(first|exact a0H|refine a0B 0 rfl ?_|refine a0B 1 rfl ?_))
 refine wj ?_
 refine x8 ?_
 refine wd ?_
 refine xD (zn (zD (zr ?_)))
 refine zb ?_
 refine zc (zJ (zn (xj ?_)))
 refine AQ.g ?_
 refine yQ 0 [4] ?_
 refine AQ.u ?_
 dsimp only[List.map,List.eraseIdx,cA,cN]
 refine vz rfl rfl ⟨_,by repeat(first|exact List.Sublist.slnil|refine List.Sublist.cons_cons _ ?_),List.Perm.refl _⟩ (⟨⟨out,by omega,b0u rfl rfl⟩,_,h3,rfl⟩)
theorem i0L (b:List UInt8)(at' by':Int)(hb:b.length≤4294967296)(hw: -9223372036854775808≤by'∧by'≤9223372036854775807):
  Sp Tryz.prog 39 [roB b,.val (.int .i64 at'),.val (.int .i64 by')] [] (v0Z (q0a (b.length+1))):=by
 refine yX Tryz.func39 _ Tryz.ntmps39 (fun w0 R0=> ?_)
 refine zD (zr ?_)
 refine zc (zJ (zn (zD (zr ?_))))
 refine zb ?_
 refine yH ?_
 intro V hV
 refine zc (zJ (zn (zD (zD (zr ?_)))))
 refine zb ?_
 refine wu ?_
 refine z8 (zJ (zn ?_))
 refine yt (fun h=> ?_) (fun h=> ?_)<;>(try simp only[vT]at h)
 ·refine zD (zr ?_)
  refine zb ?_
  refine xg ?_
  refine zR ?_
  intro B
  refine zc (zJ (zn (xj (xx ?_))))
  refine AQ.g ?_
  refine yi 0 6 ?_
  refine AQ.u ?_
  refine AQ.g ?_
  refine wm 6 ?_
  refine AQ.u ?_
  refine vz rfl rfl nS (⟨⟨[u8 by'],by simp,rfl⟩,rfl⟩)
 have hlen:0<b.length:=by omega
 have q1:=Int.emod_nonneg at' (show(b.length:Int)≠0 by omega)
 have q2:=Int.emod_lt_of_pos at' (show(0:Int)<b.length by omega)
 have q3:by'.tdiv 256=by'.tdiv 256:=rfl
 refine y6 (zn (zD (zr ?_)))
 refine zb ?_
 refine zb ?_
 refine wu ?_
 refine vO (xM rfl Tryz.func82 rfl rfl rfl (Dk.mod_fn _ _ (by omega) (by omega))) ?_
 refine zc (zJ (zn (zD (zD (zr ?_)))))
 refine zb ?_
 refine vO (O.quo rfl rfl rfl (by omega) (by rfl)) ?_
 refine vO (xM rfl Tryz.func82 rfl rfl rfl (Dk.mod_fn _ _ (by omega) (by omega))) (zJ (zn (xo (zD (zr ?_)))))
 refine z8 ?_
 refine zc (zJ (zn ?_))
 obtain⟨k,hk⟩: ∃k:Nat,at'% (b.length:Int)=(k:Int):=⟨(at'% (b.length:Int)).toNat,by omega⟩
 rw[hk]at q1 q2⊢
 refine AW.g ?_
 refine G.openRow 0 rfl (by omega) (fun b' cap hc1 hc2 hxs hVe=> ?_)
 refine AW.u ?_
 subst hVe
 have hc3:=hc2
 unfold maxLen at hc3
 refine yt (fun h1=> ?_) (fun h1=> ?_)<;>(try simp only[vT]at h1)
 ·refine zr ?_
  refine zb ?_
  refine zb ?_
  refine zb ?_
  refine xg ?_
  refine vp ?_
  refine AO.store (i:=0) rfl rfl rfl rfl rfl rfl (by rfl) (by rfl) (by exact Nat.ble_eq_true_of_le (by simp;omega)) (by rfl) (by(dsimp only[List.set,List.append,cA,cN,AV.cells,a0e,List.take,List.drop,Nat.reduceAdd];done)) (zJ (xE (zn (zD (zr ?_)))))
  refine zb ?_
  refine zc (zJ (zn (xj ?_)))
  refine AQ.g ?_
  refine G.closeRow (b:=b') 0 rfl (by simp) rfl hc1 hc2 ?_
  refine AQ.u ?_
  refine AQ.g ?_
  refine yQ 0 [6] ?_
  refine AQ.u ?_
  dsimp only[List.map,List.eraseIdx,cA,cN]
  refine vz rfl rfl nS (⟨⟨b.set k (u8 by'),by simp,b0u (by simp) (by simp[a0a,List.map_set])⟩,rfl⟩)
 refine zD (zr ?_)
 refine z8 ?_
 refine zc (zJ (zn ?_))
 refine yt (fun h2=> ?_) (fun h2=> ?_)<;>(try simp only[vT]at h2)
 ·rcases Nat.lt_or_ge (k+1) b.length with h3|h3
  ·refine zD ?_
   refine yA 7 ?_
   simp only[cT,cZ,cD,cO]
   refine zH ?_
   refine zH ?_
   refine vP wA ?_
   refine zH ?_
   refine zH ?_
   refine xm ?_
   refine vP wA ?_
   refine vb ?_
   simp only[a0h,cN,cA,cP]
   refine AO.appendCut (i:=0) rfl rfl rfl rfl (by rfl) (by rfl) rfl rfl rfl (by omega) (by exact SrcA.blk TyD.ax (by repeat(exact List.Mem.head _)) (by(dsimp only[List.set,List.append,cA,cN,AV.cells,a0e,List.take,List.drop,Nat.reduceAdd];done)) (by(simp;done))) (by(simp[AV.cells,AV.one, *];done)) (by(unfold maxLen;omega)) (by omega) ⟨by omega,by assumption⟩ (by(dsimp only[List.set,List.append,cA,cN,AV.cells,a0e,List.take,List.drop,Nat.reduceAdd];done)) (fun _=>by(dsimp only[List.set];done)) ?_
   intro V hV
   refine zc (zJ (zn (xj ?_)))
   refine ww (xx ?_)
   refine AQ.g ?_
   refine yQ 0 [6] ?_
   refine AQ.u ?_
   dsimp only[List.map,List.eraseIdx,cA,cN]
   refine AQ.ret1 rfl rfl nS (⟨⟨b.take k++b.drop (k+1),by simp<;>omega,b0u (by simp<;>omega) (by simp;rw[List.take_of_length_le (by simp)])⟩,rfl⟩)
  refine zD ?_
  refine yA 7 ?_
  simp only[cT,cZ,cD,cO]
  refine zH ?_
  refine zH ?_
  refine vP wA ?_
  refine zH ?_
  refine zH ?_
  refine xm ?_
  refine vP (O.sliceV0 rfl rfl rfl rfl ⟨by omega,by omega,by omega⟩ (by omega) (by assumption)) ?_
  refine vb ?_
  simp only[a0h,cN,cA,cP]
  refine AO.appendCut (i:=0) rfl rfl rfl rfl (by rfl) (by rfl) rfl rfl rfl (by omega) (by exact SrcA.ro TyD.ax (by rfl) (lB rfl)) (by rfl) (by(unfold maxLen;omega)) (by omega) ⟨by omega,by assumption⟩ (by(dsimp only[List.set,List.append,cA,cN,AV.cells,a0e,List.take,List.drop,Nat.reduceAdd];done)) (fun _=>by(dsimp only[List.set];done)) ?_
  intro V hV
  refine zc (zJ (zn (xj ?_)))
  refine ww (xx ?_)
  refine AQ.g ?_
  refine yQ 0 [6] ?_
  refine AQ.u ?_
  dsimp only[List.map,List.eraseIdx,cA,cN]
  refine AQ.ret1 rfl rfl nS (⟨⟨b.take k,by simp<;>omega,b0u (by simp<;>omega) (by simp)⟩,rfl⟩)
 refine AW.g ?_
 refine G.closeRow (b:=b') 0 rfl (by simp) rfl hc1 hc2 ?_
 refine AW.u ?_
 refine AW.g ?_
 refine yf 0 [7] ?_
 refine AW.u ?_
 try dsimp only[List.map,List.eraseIdx,cA,cN]
 refine zD (zr ?_)
 refine z8 ?_
 refine zc (zJ (zn ?_))
 refine yt (fun h4=> ?_) (fun h4=> ?_)<;>(try simp only[vT]at h4)
 ·refine zD ?_
  refine AW.regionM [(0,false),(1,false),(2,false),(4,false),(5,false),(6,false),(8,false),(9,false),(10,false),(3,true),(7,true),(11,true),(12,false)] (by kernel_rfl) (by kernel_rfl) (by exact a0g) ?_
  dsimp only[List.eraseIdx]
  refine yW ?_
  refine yW ?_
  refine vQ rfl (O.sliceToB rfl rfl rfl (by rfl) (by omega)) ?_
  refine yW ?_
  refine vQ rfl (O.conv rfl rfl d0m) ?_
  refine xk ?_
  refine yW ?_
  refine yW ?_
  refine vQ rfl (O.sliceFromB rfl rfl rfl (by rfl) (by omega)) ?_
  refine xN _ (fun w0 R0=> ?_)
  refine y4 ?_
  intro V hV
  refine AM.ok ?_
  dsimp only[a0q]
  refine xN _ (fun w0 R0=> ?_)
  refine AO.append' (i:=0) rfl rfl rfl rfl (by rfl) (by rfl) rfl rfl rfl (by exact SrcA.ro TyD.ax (by rfl) (lB rfl)) (by rfl) (by(unfold maxLen;simp only[List.length_take,List.length_drop,cH,cL,cE,List.length_set,Nat.zero_add];omega)) (by(simp only[List.length_take,List.length_drop,cH,cL,cE,List.length_set,Nat.zero_add];omega)) (by(dsimp only[List.set,List.append,cA,cN,AV.cells,a0e,List.take,List.drop,Nat.reduceAdd];done)) (fun _=>by(dsimp only[List.set];done)) ?_
  intro V hV
  refine AM.ok ?_
  dsimp only[a0q]
  refine xN _ (fun w0 R0=> ?_)
  refine AO.append' (i:=0) rfl rfl rfl rfl (by rfl) (by rfl) rfl rfl rfl (by exact SrcA.ro TyD.ax (by(simp;done)) (lB rfl)) (by(simp[AV.cells,AV.one, *];done)) (by(unfold maxLen;simp only[List.length_take,List.length_drop,cH,cL,cE,List.length_set,Nat.zero_add];omega)) (by(simp only[List.length_take,List.length_drop,cH,cL,cE,List.length_set,Nat.zero_add];omega)) (by(dsimp only[List.set,List.append,cA,cN,AV.cells,a0e,List.take,List.drop,Nat.reduceAdd];done)) (fun _=>by(dsimp only[List.set];done)) ?_
  intro V hV
  refine AM.ok ?_
  dsimp only[a0q]
  refine wb ?_
  refine vd ?_
  dsimp only[cA,cN]
  refine zn (xj ?_)
  refine ww (xx ?_)
  refine AQ.g ?_
  refine yf 0 [6] ?_
  refine AQ.u ?_
  try dsimp only[List.map,List.eraseIdx,cA,cN]
  refine AQ.ret1 rfl rfl nS (⟨⟨b.take k++[u8 by']++b.drop k,by simp<;>omega,b0u (by simp<;>omega) (by simp<;>rfl)⟩,rfl⟩)
 refine zD (zr ?_)
 refine zb ?_
 refine zb ?_
 refine vO (O.sliceToB rfl rfl rfl (by rfl) (by omega)) ?_
 refine zc (zJ (zn (xj ?_)))
 refine ww (xx ?_)
 refine AQ.g ?_
 refine wm 6 ?_
 refine AQ.u ?_
 try dsimp only[List.map,List.eraseIdx,cA,cN]
 refine AQ.ret1 rfl rfl nS (⟨⟨b.take k,by simp<;>omega,b0u (by simp<;>omega) (by simp)⟩,rfl⟩)
end Go.Proofs.YtojomcdjcpmnkaaGreat.By
namespace Go.Proofs.YtojomcdjcpmnkaaGreat.By
open Go.RowKit L A
attribute [local irreducible] AW AQ AO
def j0G:List UInt8→List UInt8→Int
 |x::a,y::b=>if x=y then j0G a b else if x.toNat<y.toNat then -1 else 1
 | [],[]=>0
 | [],_=> -1
 |_,[]=>1
theorem j0F: ∀{a b:List UInt8},j0G a b=0↔a=b
 | [],[]=>by simp[j0G]
 | [],_::_=>by simp[j0G]
 |_::_,[]=>by simp[j0G]
 | x::a,y::b=>by
  unfold j0G
  split
  ·rename_i h
   rw[j0F,h];simp
  rename_i h
  simp only[List.cons.injEq,h,false_and,iff_false]
  split<;>omega
theorem p0A {a b:List UInt8}{k:Nat}(h1:k<a.length)(h2:k<b.length):
  j0G (a.drop k) (b.drop k)=if bt a k=bt b k then j0G (a.drop (k+1)) (b.drop (k+1))else if(bt a k).toNat<(bt b k).toNat then -1 else 1:=by
 rw[g0G h1,g0G h2,j0G]
theorem r0A {a b:List UInt8}{k:Nat}(h1:k≤a.length)(h2:k≤b.length)(h:k<a.length→b.length≤k):j0G (a.drop k) (b.drop k)=if a.length<b.length then -1 else if b.length<a.length then 1 else 0:=by
 rcases Nat.lt_or_eq_of_le h1 with h3|h3
 ·have h4:b.length=k:=by have:=h h3;omega
  have e:b.drop k= []:=List.drop_of_length_le (by omega)
  rw[g0G h3,e,if_neg (by omega),if_pos (by omega)]
  simp[j0G]
 have e:a.drop k= []:=List.drop_of_length_le (by omega)
 rw[e]
 rcases Nat.lt_or_eq_of_le h2 with h5|h5
 ·rw[g0G h5,if_pos (by omega)];simp[j0G]
 have e:b.drop k= []:=List.drop_of_length_le (by omega)
 rw[e,if_neg (by omega),if_neg (by omega)];simp[j0G]
theorem n0d (a b:List UInt8):Sp Tryz.prog 79 [roB a,roB b] [] (Is (.val (.int .i64 (j0G a b)))):=by
 refine yX Tryz.func79 _ Tryz.ntmps79 (fun w0 R0=> ?_)
 refine AW.g ?_
 refine G.lenRo (t:=0) rfl (fun hm1=> ?_)
 refine AW.u ?_
 refine AW.g ?_
 refine G.lenRo (t:=1) rfl (fun hm2=> ?_)
 refine AW.u ?_
 unfold maxLen at hm1 hm2
 refine zD (zr ?_)
 refine zc (zJ (zn (zD (zD (zr ?_)))))
 refine zc (zJ (zn (xo ?_)))
 refine wT [(0,_),(1,_)] (fun nn E H=> ∃(k:Nat),(k≤a.length)∧(k≤b.length)∧(j0G a b=j0G (a.drop k) (b.drop k))∧nn=a.length-k∧E= [(5,.val (.int .i64 (k:Int)))]∧H= []) _ (⟨0,by omega,by omega,rfl,rfl,rfl,rfl⟩) ?_
 rintro nn E H ⟨k,h1,h2,hc,rfl,rfl,rfl⟩
 dsimp only[cA,cN]
 refine zD (zD (zr ?_))
 refine zb ?_
 refine zb ?_
 refine zX ?_
 refine zT ?_
 refine zb ?_
 refine yC ?_
 refine yC ?_
 refine yb 12 ?_
 refine AO.opG rfl rfl rfl (fun hp=>ve 11 rfl (by exact hp) (ve 13 rfl (by exact hp) yy)) ?_
 refine zW (zJ (zn ?_))
 refine yt (fun h=> ?_) (fun h=> ?_)<;>(try simp only[vT]at h)
 ·have h3:k<a.length:=by omega
  have h4:k<b.length:=by omega
  rw[p0A h3 h4]at hc
  refine y6 (zn (zD (xo (zD ?_))))
  refine yA 9 ?_
  simp only[cT,cZ,cD,cO]
  refine zH ?_
  refine zH ?_
  refine xr ?_
  refine vP vy ?_
  refine zH ?_
  refine zH ?_
  refine xr ?_
  refine vP vy ?_
  refine vP xn ?_
  refine vb ?_
  simp only[a0h,cN,cA,cP]
  refine zJ (zn ?_)
  refine yt (fun h5=> ?_) (fun h5=> ?_)<;>(try simp only[vT]at h5)
  ·rw[if_neg (fun e=>h5 (by rw[e]))]at hc
   refine zD (zD ?_)
   refine yA 9 ?_
   simp only[cT,cZ,cD,cO]
   refine zH ?_
   refine zH ?_
   refine xr ?_
   refine vP vy ?_
   refine zH ?_
   refine zH ?_
   refine xr ?_
   refine vP vy ?_
   refine vP yy ?_
   refine vb ?_
   simp only[a0h,cN,cA,cP]
   refine zJ (zn ?_)
   refine yt (fun h6=> ?_) (fun h6=> ?_)<;>(try simp only[vT]at h6)
   ·rw[if_pos (by omega)]at hc
    refine zD (zr ?_)
    refine zc (zJ (zn (xj (xx ?_))))
    refine ww (xx ?_)
    refine AQ.loopR ?_
    refine ww (xx ?_)
    refine vz rfl rfl nS (⟨congrArg (fun z=>AV.val (.int .i64 z)) hc.symm,rfl⟩)
   rw[if_neg (by omega)]at hc
   refine y6 (zn (zD (zr ?_)))
   refine zc (zJ (zn (xj ?_)))
   refine ww (xx ?_)
   refine AQ.loopR ?_
   refine ww (xx ?_)
   refine vz rfl rfl nS (⟨congrArg (fun z=>AV.val (.int .i64 z)) hc.symm,rfl⟩)
  rw[if_pos (u8_eq.1 h5)]at hc
  refine y6 (xE (zn (zr ?_)))
  refine zb ?_
  refine zB ?_
  refine zc (zJ ?_)
  refine wH _ _ _ (by omega) (⟨k+1,by omega,by omega,hc,rfl,rfl,rfl⟩)
 rw[r0A h1 h2 (fun _=>by omega)]at hc
 refine wj ?_
 refine x8 ?_
 refine wd ?_
 refine xD (zn (zD (xo (zD (zr ?_)))))
 refine zb ?_
 refine zX ?_
 refine zb ?_
 refine zX ?_
 refine zT ?_
 refine zc (zJ (zn ?_))
 refine yt (fun h5=> ?_) (fun h5=> ?_)<;>(try simp only[vT]at h5)
 ·rw[if_pos (by omega)]at hc
  refine zD (zr ?_)
  refine zc (zJ (zn (xj ?_)))
  refine ww (xx ?_)
  refine vz rfl rfl nS (⟨congrArg (fun z=>AV.val (.int .i64 z)) hc.symm,rfl⟩)
 rw[if_neg (by omega)]at hc
 refine zD (zr ?_)
 refine zb ?_
 refine zX ?_
 refine zb ?_
 refine zX ?_
 refine yZ ?_
 refine zc (zJ (zn ?_))
 refine yt (fun h6=> ?_) (fun h6=> ?_)<;>(try simp only[vT]at h6)
 ·rw[if_pos (by omega)]at hc
  refine zD (zr ?_)
  refine zc (zJ (zn (xj ?_)))
  refine ww (xx ?_)
  refine vz rfl rfl nS (⟨congrArg (fun z=>AV.val (.int .i64 z)) hc.symm,rfl⟩)
 rw[if_neg (by omega)]at hc
 refine y6 (xE (zn (zD (zr ?_))))
 refine zc (zJ (zn (xj ?_)))
 refine vz rfl rfl nS (⟨congrArg (fun z=>AV.val (.int .i64 z)) hc.symm,rfl⟩)
theorem c0b (a b:List UInt8):Sp Tryz.prog 31 [roB a,roB b] [] (Is (.val (.bool (a==b)))):=by
 refine yX Tryz.func31 _ Tryz.ntmps31 (fun w0 R0=> ?_)
 refine zD (zr ?_)
 refine zc (zJ (zn (zD (zr ?_))))
 refine zb ?_
 refine zb ?_
 refine vO (xM rfl Tryz.func79 rfl rfl rfl (n0d _ _)) ?_
 refine z8 ?_
 refine zb ?_
 refine yC ?_
 refine yb 10 ?_
 refine yC ?_
 refine yb 12 ?_
 refine AO.opG rfl rfl rfl (fun hp=>ve 11 rfl (by exact hp) (ve 13 rfl (by exact hp) yG)) ?_
 refine zW ?_
 refine zc (zJ (zn (xj ?_)))
 have e:((j0G a b==0)&&((a.length:Int)==(b.length:Int)))=(a==b):=by
  rw[Bool.eq_iff_iff]
  simp only[Bool.and_eq_true,beq_iff_eq,j0F]
  constructor
  ·exact fun h=>h.1
  rintro rfl;exact⟨rfl,rfl⟩
 refine vz rfl rfl nS (⟨congrArg (fun z=>AV.val (.bool z)) e,rfl⟩)
theorem a0p (l:List UInt8)(hl:l.length≤140737488355328):Sp Tryz.prog 69 [roB l] [] (Is (roB l)):=by
 refine yX Tryz.func69 _ Tryz.ntmps69 (fun w0 R0=> ?_)
 refine zD (zr ?_)
 refine zc (zJ (zn (zD (zr ?_))))
 refine zb ?_
 refine yH ?_
 intro V hV
 refine zc (zJ (zn (xj ?_)))
 refine AQ.g ?_
 refine yQ 0 [2] ?_
 refine AQ.u ?_
 dsimp only[List.map,List.eraseIdx,cA,cN]
 refine vz rfl rfl nS (⟨b0u (by simp) (by simp),rfl⟩)
def n0l (n:Nat)(out:List UInt8):List UInt8:=if h:n=0 then out else n0l (n/256) (u8 (n:Int)::out)
termination_by n
decreasing_by omega
def b0T (n:Int):List UInt8:=if n<0∨1099511627775<n then []else n0l (n.toNat/256) [u8 n]
theorem b0b (out:List UInt8):n0l 0 out=out:=by unfold n0l;simp
theorem a0Y {n:Nat}(h:n≠0)(out:List UInt8):n0l n out=n0l (n/256) (u8 (n:Int)::out):=by rw[n0l,dif_neg h]
theorem m0f: ∀(k n:Nat) (out:List UInt8),n<256^k→(n0l n out).length≤out.length+k
 |0,n,out,h=>by
  obtain rfl:n=0:=by simpa using h
  rw[b0b];simp
 |k+1,n,out,h=>by
  by_cases h0:n=0
  ·subst h0;rw[b0b];simp
  rw[a0Y h0]
  have:=m0f k (n/256) (u8 (n:Int)::out) (by rw[Nat.pow_succ]at h;omega)
  simp at this⊢;omega
theorem c0Y (n:Int):(b0T n).length≤5:=by
 unfold b0T
 split
 ·simp
 have:=m0f 4 (n.toNat/256) [u8 n] (by omega)
 simpa using this
def o0x (n:Int)(s:Nat)(out:List UInt8):List UInt8:=if 0<out.length∨(u8 (n/256^s)≠0)∨s=0 then out++[u8 (n/256^s)]else out
def rGo (n:Int):Nat→List UInt8
 |0=> []
 |k+1=>o0x n (4-k) (rGo n k)
theorem f0X (x:Int):u8 x=0↔x%256=0:=by
 constructor
 ·intro h
  have:=c0r x
  rw[h]at this
  simpa using this.symm
 intro h;unfold u8;rw[h];rfl
theorem t0o {n:Int}(h0:0≤n)(h1:n≤1099511627775):rGo n 5=b0T n:=by
 obtain⟨m,rfl⟩: ∃m:Nat,n=(m:Int):=⟨n.toNat,by omega⟩
 have nz: ∀x:Int,x%256≠0→ ¬u8 x=0:=fun x h e=>h ((f0X x).1 e)
 have yz: ∀x:Int,x%256=0→u8 x=0:=fun x h=>(f0X x).2 h
 have q:(m:Int)/256^0=(m:Int):=by simp
 have s1:((m/256:Nat):Int)=(m:Int)/256:=by omega
 have s2:((m/65536:Nat):Int)=(m:Int)/65536:=by omega
 have s3:((m/16777216:Nat):Int)=(m:Int)/16777216:=by omega
 have s4:((m/4294967296:Nat):Int)=(m:Int)/4294967296:=by omega
 unfold b0T
 rw[if_neg (by omega)]
 simp only[rGo,o0x,Nat.reduceSub,Int.reducePow,Int.toNat_natCast,q]
 by_cases a4:m/4294967296=0
 ·have e4:=yz ((m:Int)/4294967296) (by omega)
  by_cases a3:m/16777216=0
  ·have e3:=yz ((m:Int)/16777216) (by omega)
   by_cases a2:m/65536=0
   ·have e2:=yz ((m:Int)/65536) (by omega)
    by_cases a1:m/256=0
    ·have e1:=yz ((m:Int)/256) (by omega)
     rw[a1,b0b]
     simp[e4,e3,e2,e1]
    have e1:=nz ((m:Int)/256) (by omega)
    rw[a0Y a1,show m/256/256=0 by omega,b0b,s1]
    simp[e4,e3,e2,e1]
   have e2:=nz ((m:Int)/65536) (by omega)
   rw[a0Y (by omega),a0Y (by omega),show m/256/256/256=0 by omega,b0b,show m/256/256=m/65536 by omega,s1,s2]
   simp[e4,e3,e2]
  have e3:=nz ((m:Int)/16777216) (by omega)
  rw[a0Y (by omega),a0Y (by omega),a0Y (by omega),show m/256/256/256/256=0 by omega,b0b,show m/256/256/256=m/16777216 by omega,show m/256/256=m/65536 by omega,s1,s2,s3]
  simp[e4,e3]
 have e4:=nz ((m:Int)/4294967296) (by omega)
 rw[a0Y (by omega),a0Y (by omega),a0Y (by omega),a0Y (by omega),show m/256/256/256/256/256=0 by omega,b0b,show m/256/256/256/256=m/4294967296 by omega,show m/256/256/256=m/16777216 by omega,show m/256/256=m/65536 by omega,s1,s2,s3,s4]
 simp[e4]
theorem o0y (n:Int): ∀k,(rGo n k).length≤k
 |0=>Nat.le_refl _
 |k+1=>by
  have:=o0y n k
  unfold rGo o0x
  split
  ·simp;omega
  omega
end Go.Proofs.YtojomcdjcpmnkaaGreat.By
namespace Go.Proofs.YtojomcdjcpmnkaaGreat.By
open Go.RowKit L A Dk
attribute [local irreducible] AW AQ AO
theorem m0d (n:Int):Sp Tryz.prog 112 [.val (.int .i64 n)] [] (Is (roB (b0T n))):=by
 refine yX Tryz.func112 _ Tryz.ntmps112 (fun w0 R0=> ?_)
 refine zD (zr ?_)
 refine zc (zJ (zn (zD (zD (zr ?_)))))
 refine zb ?_
 refine zT ?_
 refine zb ?_
 refine yC ?_
 refine yB 7 ?_
 refine zI (zJ (zn ?_))
 refine yt (fun h=> ?_) (fun h=> ?_)<;>(try simp only[vT]at h)
 ·have e:b0T n= []:=by unfold b0T;rw[if_pos (by omega)]
  rw[e]
  refine zD (zr ?_)
  refine zc (zJ (zn (xj (xx ?_))))
  refine AQ.g ?_
  refine G.nilRo 2 rfl ?_
  refine AQ.u ?_
  try dsimp only[List.map,List.eraseIdx,cA,cN]
  refine yM
 obtain⟨m,rfl⟩: ∃m:Nat,n=(m:Int):=⟨n.toNat,by omega⟩
 have e:b0T (m:Int)=n0l (m/256) [u8 (m:Int)]:=by unfold b0T;rw[if_neg (by omega)];simp
 rw[e]
 refine y6 (zn (zD (zr ?_)))
 refine zb ?_
 refine xg ?_
 refine zR ?_
 intro B
 refine zc (zJ (zn (zD (zD (zr ?_)))))
 refine zb ?_
 refine vg ?_
 refine zc (zJ (zn (xo ?_)))
 rw[show(m:Int)/256=((m/256:Nat):Int) by omega]
 refine AW.g ?_
 refine G.closeRow (n:=1) (cap:=1) 0 rfl rfl rfl (Nat.le_refl _) (by(unfold maxLen;omega)) ?_
 refine AW.u ?_
 dsimp only[List.set]
 refine AW.loopK [] (fun nn E H=> ∃(j:Nat) (q:Nat) (out:List UInt8) (V:Value),(j<256^q)∧(q≤4)∧(out.length+q≤5)∧(V.oneCell'=true)∧(n0l (m/256) [u8 (m:Int)]=n0l j out)∧j=nn∧E= [(0,.val (.int .i64 (j:Int))),(3,.val V)]∧H= [.row V 5 1 out.length (a0a out)]) _ (⟨m/256,4,[u8 (m:Int)],_,by omega,by omega,by simp,rfl,rfl,rfl,rfl,rfl⟩) (by repeat(exact a0l)) (by repeat(first|exact a0l|refine a0j rfl ?_)) (by repeat(first|exact a0H|refine a0B 0 rfl ?_)) ?_
 rintro nn E H ⟨j,q,out,V,h1,h2,h4,hV,hb,rfl,rfl,rfl⟩
 dsimp only[cA,cN]
 refine zD (zD (zr ?_))
 refine zb ?_
 refine yZ (zJ (zn ?_))
 refine yt (fun h=> ?_) (fun h=> ?_)<;>(try simp only[vT]at h)
 ·obtain⟨q,rfl⟩: ∃p,q=p+1:=⟨q-1,by cases q with|zero=>simp at h1;omega|succ q=>rfl⟩
  have hj:j≠0:=by omega
  rw[a0Y hj]at hb
  refine y6 (zn (zD (xo (zr ?_))))
  refine zb ?_
  refine xg ?_
  refine zR ?_
  intro B
  refine AO.g ?_
  refine xT B 1 1 0 rfl rfl rfl (Nat.le_refl _) ?_
  refine AO.u ?_
  dsimp only[List.set]
  refine zb ?_
  refine AO.append' (i:=0) rfl rfl rfl rfl (by rfl) (by rfl) rfl rfl rfl (by exact SrcA.row TyD.ax mM (by(simp;done))) (by(simp[AV.cells,AV.one, *];done)) (by(unfold maxLen;omega)) (by omega) (by(dsimp only[List.set,List.append,cA,cN,a0e,a0A,AV.cells,List.map,List.map_cons,List.map_nil,List.take,List.drop,Nat.zero_add,Nat.add_zero,Nat.reduceAdd,Nat.reduceMul,Nat.zero_mul,Value.cells,List.toList_toArray,a0x,List.replicate,List.flatten,cP];done)) (fun _=>by(dsimp only[List.set];done)) ?_
  intro V hV
  refine zc (zJ (xE (zn (zr ?_))))
  refine zb ?_
  refine vg ?_
  refine zc (zJ ?_)
  rw[show(j:Int)/256=((j/256:Nat):Int) by omega]
  refine AQ.loopKN _ _ _ (Nat.div_lt_self (by omega) (by omega)) (⟨j/256,q,u8 (j:Int)::out,V,by rw[Nat.pow_succ]at h1;omega,by omega,by simp;omega,hV,hb,rfl,rfl,by simp only[cL,Nat.add_comm out.length 1];rfl⟩) (by repeat(exact a0l)) (by repeat(first|exact a0l|refine a0j rfl ?_)) (by repeat(first|exact a0H|refine a0B 0 rfl ?_))
 obtain rfl:j=0:=by omega
 rw[hb,b0b]
 refine wj ?_
 refine x8 ?_
 refine wd ?_
 refine xD (zn (zD (zr ?_)))
 refine zb ?_
 refine zc (zJ (zn (xj ?_)))
 refine AQ.g ?_
 refine yf 0 [2] ?_
 refine AQ.u ?_
 try dsimp only[List.map,List.eraseIdx,cA,cN]
 refine yM
theorem i0V (n:Int):Sp Tryz.prog 74 [.val (.int .i64 n)] [] (Is (roB (b0T n))):=by
 refine yX Tryz.func74 _ Tryz.ntmps74 (fun w0 R0=> ?_)
 refine zD (zr ?_)
 refine zc (zJ (zn (zD (zD (zr ?_)))))
 refine zb ?_
 refine zT ?_
 refine zb ?_
 refine yC ?_
 refine yB 9 ?_
 refine zI (zJ (zn ?_))
 refine yt (fun h=> ?_) (fun h=> ?_)<;>(try simp only[vT]at h)
 ·have e:b0T n= []:=by unfold b0T;rw[if_pos (by omega)]
  rw[e]
  refine zD (zr ?_)
  refine zc (zJ (zn (xj (xx ?_))))
  refine AQ.g ?_
  refine G.nilRo 2 rfl ?_
  refine AQ.u ?_
  try dsimp only[List.map,List.eraseIdx,cA,cN]
  refine yM
 obtain⟨m,rfl⟩: ∃m:Nat,n=(m:Int):=⟨n.toNat,by omega⟩
 refine y6 (zn (zD (zr ?_)))
 refine zc (zJ (zn (zD (zD (zr ?_)))))
 refine zc (zJ (zn (xo ?_)))
 refine AW.g ?_
 refine G.nilRow 5 1 ?_
 refine AW.u ?_
 refine zi [(0,_)] (fun nn E H=> ∃(k:Nat) (V:Value),(k≤5)∧(V.oneCell'=true)∧nn=5-k∧E= [(3,.val V),(4,.val (.int .i64 (32-8*(k:Int))))]∧H= [.row V 5 1 (rGo (m:Int) k).length (a0a (rGo (m:Int) k))]) _ (⟨0,.slice none 0 0,by omega,rfl,rfl,rfl,rfl⟩) ?_
 rintro nn E H ⟨k,V,h1,hV,rfl,rfl,rfl⟩
 dsimp only[cA,cN]
 have hlen:=o0y (m:Int) k
 refine zD (zD (zr ?_))
 refine zb ?_
 refine wX (zJ (zn ?_))
 refine yt (fun h=> ?_) (fun h=> ?_)<;>(try simp only[vT]at h)
 ·have hk:k≤4:=by omega
  refine y6 (zn (zD (xo (zD (zr ?_)))))
  refine zb ?_
  refine zb ?_
  refine vO (O.shr rfl rfl rfl (by omega) rfl) ?_
  refine xg ?_
  refine zc (zJ (zn (zD (zr ?_))))
  refine zb ?_
  refine wu ?_
  refine yZ ?_
  refine zb ?_
  refine yC ?_
  refine xW 24 ?_
  refine zI ?_
  refine zb ?_
  refine yC ?_
  refine xe 28 ?_
  refine zI (zJ (zn ?_))
  have e1:Int.fdiv (m:Int) (2^min (Int.toNat (32-8*(k:Int))) IntKind.i64.bits)=(m:Int)/256^ (4-k):=by
   rcases(show k=0∨k=1∨k=2∨k=3∨k=4 by omega)with rfl|rfl|rfl|rfl|rfl<;>exact Int.fdiv_eq_ediv_of_nonneg _ (by decide)
  rw[e1]
  have e2:((u8 ((m:Int)/256^ (4-k))).toNat:Int)=0↔u8 ((m:Int)/256^ (4-k))=0:=by
   rw[show(0:Int)=((0:UInt8).toNat:Int)from rfl,u8_eq]
  refine yt (fun h2=> ?_) (fun h2=> ?_)<;>(try simp only[vT]at h2)
  ·have e:rGo (m:Int) (k+1)=rGo (m:Int) k++[u8 ((m:Int)/256^ (4-k))]:=by
    rw[rGo,o0x,if_pos]
    rcases h2 with(h2|h2)|h2
    ·exact .inl (by omega)
    ·exact .inr (.inl (fun e=>h2 (e2.2 e)))
    exact .inr (.inr (by omega))
   refine zr ?_
   refine zb ?_
   refine zb ?_
   refine zR ?_
   intro B
   refine AO.g ?_
   refine yi 0 33 ?_
   refine wm 33 ?_
   refine AO.u ?_
   dsimp only[List.eraseIdx]
   refine yq 0 ?_
   intro V hV
   refine zc (zJ (xE (zn (zr ?_))))
   refine zb ?_
   refine yN ?_
   refine zc (zJ ?_)
   refine AQ.loopKN _ _ _ (by omega) (⟨k+1,V,by omega,hV,rfl,by rw[show 32-8*((k+1:Nat):Int)=32-8*(k:Int)-8 by omega],by rw[e,a0U,cH]<;>rfl⟩) (by repeat(first|exact a0l|refine a0j rfl ?_)) (by repeat(first|exact a0l|refine a0j rfl ?_)) (by repeat(first|exact a0H|refine a0B 0 rfl ?_))
  have e:rGo (m:Int) (k+1)=rGo (m:Int) k:=by
   obtain⟨⟨h3,h4⟩,h5⟩:=h2
   rw[rGo,o0x,if_neg]
   rintro(h6|h6|h6)
   ·omega
   ·exact h6 (e2.1 (by simpa using h4))
   omega
  refine y6 (xE (zn (zr ?_)))
  refine zb ?_
  refine yN ?_
  refine zc (zJ ?_)
  refine zu _ _ _ (by omega) (⟨k+1,V,by omega,hV,rfl,by rw[show 32-8*((k+1:Nat):Int)=32-8*(k:Int)-8 by omega],by rw[e]⟩)
 obtain rfl:k=5:=by omega
 rw[t0o (by omega) (by omega)]
 refine wj ?_
 refine x8 ?_
 refine wd ?_
 refine xD (zn (zD (zr ?_)))
 refine zb ?_
 refine zc (zJ (zn (xj ?_)))
 refine AQ.g ?_
 refine yf 0 [2] ?_
 refine AQ.u ?_
 try dsimp only[List.map,List.eraseIdx,cA,cN]
 refine yM
end Go.Proofs.YtojomcdjcpmnkaaGreat.By
namespace Go.Proofs.YtojomcdjcpmnkaaGreat.By
open Go.RowKit L A
attribute [local irreducible] AW AQ AO
abbrev k0z (k n:Int)(b:List UInt8):List AV:= [.val (.int .i64 k),.val (.int .u64 n),roB b,.ro false 0 []]
theorem f0h (k n:Int)(b:List UInt8):(It.mk k n b []).cells=k0z k n b:=by rw[It.cells,e0w];rfl
theorem d0M (k n:Int)(b:List UInt8)(l:List It):(It.mk k n b l).cells= [.val (.int .i64 k),.val (.int .u64 n),roB b,.ro false l.length (e0w l)]:=by rw[It.cells]
theorem p0d (l:List It)(x:It):e0w (l++[x])=e0w l++x.cells:=by rw[i0n,i0n,j0u]
abbrev h0H (x:It):Prop:=Sp Tryz.prog 168 [.agg x.cells] [] (Is (.agg x.cells))
theorem m0b {k n:Int}{b:List UInt8}{l:List It}(hb:b.length≤100000)(hm:l.length≤1000)(hS: ∀q,q<l.length→h0H (q0d l q)):h0H (.mk k n b l):=by
 unfold h0H
 rw[d0M]
 refine yX Tryz.func168 _ Tryz.ntmps168 (fun w0 R0=> ?_)
 refine zD (zr ?_)
 refine yo ?_
 intro B1
 refine zd ?_
 intro B2
 refine zJ (zn (zD ?_))
 refine yA 9 ?_
 simp only[cT,cZ,cD,cO]
 refine yw ?_
 refine zM ?_
 refine yw ?_
 refine zM ?_
 refine yw ?_
 refine zM ?_
 refine x9 ?_
 refine x0 ?_
 refine yS ?_
 refine vb ?_
 simp only[a0h,cN,cA,cP]
 rintro _ _ ⟨B3,rfl,rfl⟩
 simp only[cA,cN]
 refine za 0 (zJ (zn (zD (zr ?_))))
 refine zc (zJ (zn (zD (zD (zr ?_)))))
 refine zq ?_
 refine zp ?_
 refine zX ?_
 refine zb (zJ (zn (xo ?_)))
 refine AW.g ?_
 refine G.nilRow 147 4 ?_
 refine AW.u ?_
 refine zi [(2,_),(3,_),(16,_),(17,_)] (fun nn E H=> ∃(q:Nat) (V:Value),(q≤l.length)∧(V.oneCell'=true)∧nn=l.length-q∧E= [(4,.val V),(18,.val (.int .i64 (q:Int)))]∧H= [.row V 147 4 q (e0w (l.take q)),.blk B3 147 4 [.val (.int .i64 k),.val (.int .u64 n),roB b,.val (.slice none 0 0)],.blk B2 147 4 [.val (.int .i64 0),.val (.int .u64 0),.val (.slice none 0 0),.val (.slice none 0 0)],.blk B1 147 4 [.val (.int .i64 k),.val (.int .u64 n),roB b,.ro false l.length (e0w l)]]) _ (⟨0,_,by omega,rfl,rfl,rfl,by rw[cZ,e0w]⟩) ?_
 rintro nn E H ⟨q,V,hq,hV,rfl,rfl,rfl⟩
 dsimp only[cA,cN]
 have hil:(e0w (l.take q)).length=q*4:=by rw[r0k,List.length_take];omega
 refine zD (zr ?_)
 refine zT (zJ (zn (zD ?_)))
 refine yt (fun hlt=> ?_) (fun hlt=> ?_)<;>(try simp only[vT]at hlt)
 ·have hql:q<l.length:=by omega
  obtain⟨kk,nn',bb,ll,hx⟩: ∃kk nn' bb ll,q0d l q= .mk kk nn' bb ll:=by cases h:q0d l q;exact⟨_,_,_,_,rfl⟩
  have hg:((e0w l).drop (Int.toNat (q:Int)*4)).take 4= [.val (.int .i64 kk),.val (.int .u64 nn'),roB bb,.ro false ll.length (e0w ll)]:=by
   rw[v0C hql (by omega),hx,It.cells]
  have hSk:=hS q hql
  rw[hx]at hSk
  unfold h0H at hSk
  rw[It.cells]at hSk
  have e1:=p0d (l.take q) (q0d l q)
  rw[←a0i itN hql,hx,It.cells]at e1
  refine y6 (zn (zD (xo (zD (zr ?_)))))
  refine ye ?_
  refine vO (O.loadRK rfl rfl (by exact hg) (by rfl)) ?_
  refine zd ?_
  intro B4
  refine za 0 (zJ (zn (zr ?_)))
  refine zb ?_
  refine vO (O.loadK rfl rfl (by repeat(exact List.Mem.head _)) (by rfl) (by rfl)) ?_
  refine vO (xM rfl Tryz.func168 rfl rfl rfl hSk) ?_
  refine zR ?_
  intro B5
  refine AO.g ?_
  refine yi 0 25 ?_
  refine wm 25 ?_
  refine AO.u ?_
  dsimp only[List.eraseIdx]
  refine yD 1 ?_
  intro V6 hV6
  refine zc (zJ (xE (zn (zr ?_))))
  refine zB ?_
  refine zb (zJ ?_)
  rw[show e0w (l.take q)++_=_ from e1.symm]
  refine zL _ _ _ (by omega) (⟨q+1,_,by omega,‹_›,rfl,rfl,rfl⟩)
 obtain rfl:q=l.length:=by omega
 rw[List.take_length]
 refine AW.g ?_
 refine yf 0 [4] ?_
 refine AW.u ?_
 try dsimp only[List.map,List.eraseIdx,cA,cN]
 refine wj ?_
 refine x8 ?_
 refine wd ?_
 refine xD (zn (zD (zr ?_)))
 refine zb ?_
 refine zq ?_
 refine za 0 (zJ (zn (zD (zr ?_))))
 refine zC ?_
 refine za 1 (zJ (zn (xj ?_)))
 refine AQ.retCell rfl rfl mM (by rfl) rfl nS (⟨rfl,rfl⟩)
def w0c:Nat→It→Prop
 |0,.mk _ _ b l=>b.length≤100000∧l= []
 |d+1,.mk _ _ b l=>b.length≤100000∧l.length≤1000∧ ∀y∈l,w0c d y
theorem j0D: ∀(d:Nat) (x:It),w0c d x→h0H x
 |0,.mk k n b l,h=>by
  obtain⟨h1,rfl⟩:=h
  exact m0b h1 (by simp) (fun q hq=>absurd hq (by simp))
 |d+1,.mk k n b l,h=>m0b h.1 h.2.1 fun q hq=>j0D d _ (h.2.2 _ (b0m itN hq))
theorem a0M {d:Nat}{k n:Int}{b:List UInt8}(h:b.length≤100000):w0c d (.mk k n b []):=by
 cases d with
 |zero=>exact⟨h,rfl⟩
 |succ d=>exact⟨h,by simp,fun y hy=>by cases hy⟩
theorem e0q (d:Nat)(l:List It)(hm:l.length≤1000)(hS: ∀y∈l,w0c d y):Sp Tryz.prog 123 [.ro false l.length (e0w l)] [] (Is (.agg (It.mk 4 0 [] l).cells)):=by
 have hcp:=j0D (d+1) (.mk 4 0 [] l) ⟨by simp,hm,hS⟩
 unfold h0H at hcp
 rw[d0M]at hcp⊢
 refine yX Tryz.func123 _ Tryz.ntmps123 (fun w0 R0=> ?_)
 refine zD (zr ?_)
 refine zd ?_
 intro B1
 refine zJ (zn (zD (zr ?_)))
 refine zb ?_
 refine zP ?_
 refine vO (vv rfl Tryz.func168 rfl rfl rfl hcp) ?_
 refine za 0 (zJ (zn (xj ?_)))
 refine AQ.retCell rfl rfl (by repeat(exact List.Mem.head _)) (by rfl) rfl nS (⟨rfl,rfl⟩)
theorem e0T (n:Int)(hn:0≤n∧n<1000):Sp Tryz.prog 124 [.val (.int .i64 n)] [] (Is (.agg (k0z 0 n []))):=by
 refine yX Tryz.func124 _ Tryz.ntmps124 (fun w0 R0=> ?_)
 refine zD (zr ?_)
 refine zd ?_
 intro B1
 refine zJ (zn (zD (zD (zr ?_))))
 refine zb ?_
 refine vO (O.lss rfl rfl rfl (by exact e0G (by omega))) (zJ (zn ?_))
 refine AW.condF rfl (y6 (zn (zD (zr ?_))))
 refine zb ?_
 refine wg ?_
 refine zP ?_
 refine za 0 (zJ (zn (xj ?_)))
 refine wa wo wB (⟨rfl,rfl⟩)
theorem d0q (b:List UInt8)(hb:b.length≤100000):Sp Tryz.prog 125 [roB b] [] (Is (.agg (k0z 2 0 b))):=by
 refine yX Tryz.func125 _ Tryz.ntmps125 (fun w0 R0=> ?_)
 refine zD (zr ?_)
 refine zd ?_
 intro B1
 refine zJ (zn (zD (zr ?_)))
 refine zb ?_
 refine vO xL ?_
 refine zP ?_
 refine za 0 (zJ (zn (xj ?_)))
 refine wa wo wB (⟨rfl,rfl⟩)
theorem l0o:Sp Tryz.prog 126 [.val (.string ⟨#[75,101,121]⟩)] [] (Is (.agg (k0z 3 0 p0c))):=by
 refine yX Tryz.func126 _ Tryz.ntmps126 (fun w0 R0=> ?_)
 refine zD (zr ?_)
 refine zd ?_
 intro B1
 refine zJ (zn (zD (zr ?_)))
 refine zb ?_
 refine vO (O.toBytes rfl rfl rfl (by(unfold maxLen;simp;done))) ?_
 refine zP ?_
 refine za 0 (zJ (zn (xj ?_)))
 refine wa wo wB (⟨rfl,rfl⟩)
theorem q0r:Sp Tryz.prog 126 [.val (.string ⟨#[73,86]⟩)] [] (Is (.agg (k0z 3 0 ivT))):=by
 refine yX Tryz.func126 _ Tryz.ntmps126 (fun w0 R0=> ?_)
 refine zD (zr ?_)
 refine zd ?_
 intro B1
 refine zJ (zn (zD (zr ?_)))
 refine zb ?_
 refine vO (O.toBytes rfl rfl rfl (by(unfold maxLen;simp;done))) ?_
 refine zP ?_
 refine za 0 (zJ (zn (xj ?_)))
 refine wa wo wB (⟨rfl,rfl⟩)
theorem q0s:Sp Tryz.prog 126 [.val (.string ⟨#[69,110,99,114,121,112,116,48]⟩)] [] (Is (.agg (k0z 3 0 i0E))):=by
 refine yX Tryz.func126 _ Tryz.ntmps126 (fun w0 R0=> ?_)
 refine zD (zr ?_)
 refine zd ?_
 intro B1
 refine zJ (zn (zD (zr ?_)))
 refine zb ?_
 refine vO (O.toBytes rfl rfl rfl (by(unfold maxLen;simp;done))) ?_
 refine zP ?_
 refine za 0 (zJ (zn (xj ?_)))
 refine wa wo wB (⟨rfl,rfl⟩)
theorem b0o {m n:Nat}(h:n<24):m0T m n= [UInt8.ofNat (32*m+n)]:=if_pos h
theorem e0M (n:Nat):u8 (n:Int)=UInt8.ofNat n:=by
 unfold u8
 exact UInt8.toNat_inj.1 (by simp only[UInt8.toNat_ofNat'];omega)
theorem f0y {k:Int}{m:Nat}{b:List UInt8}(hk:k=(m:Int))(hm:m=2∨m=3)(h:b.length<24):(It.mk k 0 b []).enc=m0T m b.length++b:=by
 subst hk
 rw[d0K,b0o h,show hnI (m:Int) 0 b 0=(b.length:Int)from if_pos (by omega),show 32*(m:Int)+(b.length:Int)=((32*m+b.length:Nat):Int) by omega,e0M]
 rfl
theorem r0u {n:Nat}(h:n<24):(It.mk 0 (n:Int) [] []).enc=f0q n:=by
 rw[d0K,f0q,b0o h,show hnI 0 (n:Int) [] 0=(n:Int)from rfl,show 32*0+(n:Int)=((32*0+n:Nat):Int) by omega,e0M]
theorem p0s {l:List It}(h:l.length<24):(It.mk 4 0 [] l).enc=g0U (l.map It.enc):=by
 have e: ∀l:List It,c0n l=(l.map It.enc).flatten:=fun l=>by
  induction l with
  |nil=>rw[c0n];rfl
  |cons x l ih=>rw[c0n,ih];rfl
 rw[k0H,g0U,List.length_map,b0o h,e,show 32*4+(l.length:Int)=((32*4+l.length:Nat):Int) by omega,e0M]
 rfl
theorem r0t:(It.mk 7 22 [] []).enc= [0xf6]:=by rw[d0K];rfl
def f0x (id ctx:List UInt8)(has:Bool)(kind:List UInt8)(n:Nat):List It:= [.mk 2 0 id [],if has=true then .mk 2 0 ctx []else .mk 7 22 [] [],.mk 0 ((10:Nat):Int) [] [],.mk 3 0 kind [],.mk 0 (n:Int) [] []]
theorem r0l {id ctx:List UInt8}{has:Bool}{kind:List UInt8}{n:Nat}(h1:id.length<24)(h2:ctx.length<24)(h3:kind.length<24)(h4:n<24):(It.mk 4 0 [] (f0x id ctx has kind n)).enc=f0b id ctx has kind n:=by
 have e:(f0x id ctx has kind n).map It.enc= [c0H id,if has then c0H ctx else [0xf6],f0q 10,l0e kind,f0q n]:=by
  show [(It.mk 2 0 id []).enc,(if has=true then It.mk 2 0 ctx []else It.mk 7 22 [] []).enc,(It.mk 0 ((10:Nat):Int) [] []).enc,(It.mk 3 0 kind []).enc,(It.mk 0 (n:Int) [] []).enc]=_
  rw[f0y (k:=2) (m:=2) rfl (.inl rfl) h1,r0u (by omega),f0y (k:=3) (m:=3) rfl (.inr rfl) h3,r0u h4]
  cases has with
  |true=>rw[if_pos rfl,if_pos rfl,f0y (k:=2) (m:=2) rfl (.inl rfl) h2];rfl
  |false=>rw[if_neg (by simp),if_neg (by simp),r0t];rfl
 rw[p0s (by show 5<24;omega),e];rfl
theorem f0I {id ctx:List UInt8}{has:Bool}{kind:List UInt8}{n:Nat}(h1:id.length<24)(h2:ctx.length<24)(h3:kind.length<24)(h4:n<24):(f0b id ctx has kind n).length≤100:=by
 cases has<;>simp[f0b,g0U,c0H,f0q,l0e,b0o,h1,h2,h3,h4]<;>omega
theorem h0V (id ctx:List UInt8)(has:Bool)(s:ByteArray)(kind:List UInt8)(n:Nat)(h1:id.length<24)(h2:ctx.length<24)(h3:kind.length<24)(h4:n<24)(htx:Sp Tryz.prog 126 [.val (.string s)] [] (Is (.agg (k0z 3 0 kind)))):
  Sp Tryz.prog 106 [roB id,roB ctx,.val (.bool has),.val (.string s),.val (.int .i64 (n:Int))] [] (Is (roB (f0b id ctx has kind n))):=by
 have hen:=r0l (id:=id) (ctx:=ctx) (has:=has) (kind:=kind) (n:=n) h1 h2 h3 h4
 have hll:=f0I (id:=id) (ctx:=ctx) (has:=has) (kind:=kind) (n:=n) h1 h2 h3 h4
 cases has with
 | true=>
  have hli:=e0q 0 (f0x id ctx true kind n) (by show 5≤1000;omega) (by
   intro y hy
   simp only[f0x,if_true,List.mem_cons,List.not_mem_nil,or_false]at hy
   rcases hy with rfl|rfl|rfl|rfl|rfl
   ·exact a0M (by omega)
   ·exact a0M (by omega)
   ·exact a0M (by simp)
   ·exact a0M (by omega)
   exact a0M (by simp))
  have hra:=g0i 1 (.mk 4 0 [] (f0x id ctx true kind n)) (.inr ⟨rfl,rfl,rfl,by show 5<24;omega,by
   intro y hy
   simp only[f0x,if_true,List.mem_cons,List.not_mem_nil,or_false]at hy
   rcases hy with rfl|rfl|rfl|rfl|rfl
   ·exact⟨rfl,.inr ⟨.inl rfl,rfl,h1⟩⟩
   ·exact⟨rfl,.inr ⟨.inl rfl,rfl,h2⟩⟩
   ·exact⟨rfl,.inl ⟨.inl rfl,by omega,by omega,rfl⟩⟩
   ·exact⟨rfl,.inr ⟨.inr rfl,rfl,h3⟩⟩
   exact⟨rfl,.inl ⟨.inl rfl,by omega,by omega,rfl⟩⟩⟩) (by rw[hen];omega)
  unfold h0a at hra
  rw[hen]at hra
  rw[d0M]at hli hra
  simp only[f0x,if_true,e0w,f0h,cP,cA,cN,cL,cE,Nat.zero_add,Nat.reduceAdd]at hli hra
  refine yX Tryz.func106 _ Tryz.ntmps106 (fun w0 R0=> ?_)
  refine zD (zr ?_)
  refine zc (zJ (zn (zD (zr ?_))))
  refine zP ?_
  refine zd ?_
  intro B1
  refine za 0 (zJ (zn (zD (zD (zr ?_)))))
  refine zb (zJ (zn ?_))
  refine AW.condT rfl (zr ?_)
  refine zb ?_
  refine vO (xM rfl Tryz.func125 rfl rfl rfl (d0q _ (by omega))) ?_
  refine za 0 (zJ (zn (zD ?_)))
  refine yA 12 ?_
  simp only[cT,cZ,cD,cO]
  refine zH ?_
  refine vP (xM rfl Tryz.func125 rfl rfl rfl (d0q _ (by omega))) ?_
  refine vq ?_
  refine vP (xM rfl Tryz.func124 rfl rfl rfl (e0T _ ⟨by omega,by omega⟩)) ?_
  refine zH ?_
  refine vP (xM rfl Tryz.func126 rfl rfl rfl htx) ?_
  refine zH ?_
  refine vP (xM rfl Tryz.func124 rfl rfl rfl (e0T _ ⟨by omega,by omega⟩)) ?_
  refine vP (OpW.frz xO (by(unfold maxLen;omega))) ?_
  refine vP (xM rfl Tryz.func123 rfl rfl rfl hli) ?_
  refine vP (xM rfl Tryz.func122 rfl rfl rfl hra) ?_
  refine vB ?_
  refine vb ?_
  simp only[a0h,cN,cA,cP]
  refine zJ (zn (xj ?_))
  refine yM
 | false=>
  have hli:=e0q 0 (f0x id ctx false kind n) (by show 5≤1000;omega) (by
   intro y hy
   simp only[f0x,if_neg (show ¬(false=true) by simp),List.mem_cons,List.not_mem_nil,or_false]at hy
   rcases hy with rfl|rfl|rfl|rfl|rfl
   ·exact a0M (by omega)
   ·exact a0M (by simp)
   ·exact a0M (by simp)
   ·exact a0M (by omega)
   exact a0M (by simp))
  have hra:=g0i 1 (.mk 4 0 [] (f0x id ctx false kind n)) (.inr ⟨rfl,rfl,rfl,by show 5<24;omega,by
   intro y hy
   simp only[f0x,if_neg (show ¬(false=true) by simp),List.mem_cons,List.not_mem_nil,or_false]at hy
   rcases hy with rfl|rfl|rfl|rfl|rfl
   ·exact⟨rfl,.inr ⟨.inl rfl,rfl,h1⟩⟩
   ·exact⟨rfl,.inl ⟨.inr rfl,by omega,by omega,rfl⟩⟩
   ·exact⟨rfl,.inl ⟨.inl rfl,by omega,by omega,rfl⟩⟩
   ·exact⟨rfl,.inr ⟨.inr rfl,rfl,h3⟩⟩
   exact⟨rfl,.inl ⟨.inl rfl,by omega,by omega,rfl⟩⟩⟩) (by rw[hen];omega)
  unfold h0a at hra
  rw[hen]at hra
  rw[d0M]at hli hra
  simp only[f0x,if_neg (show ¬(false=true) by simp),e0w,f0h,cP,cA,cN,cL,cE,Nat.zero_add,Nat.reduceAdd]at hli hra
  refine yX Tryz.func106 _ Tryz.ntmps106 (fun w0 R0=> ?_)
  refine zD (zr ?_)
  refine zc (zJ (zn (zD (zr ?_))))
  refine zP ?_
  refine zd ?_
  intro B1
  refine za 0 (zJ (zn (zD (zD (zr ?_)))))
  refine zb (zJ (zn ?_))
  refine AW.condF rfl (y6 (zn (zD ?_)))
  refine yA 12 ?_
  simp only[cT,cZ,cD,cO]
  refine zH ?_
  refine vP (xM rfl Tryz.func125 rfl rfl rfl (d0q _ (by omega))) ?_
  refine vq ?_
  refine vP (xM rfl Tryz.func124 rfl rfl rfl (e0T _ ⟨by omega,by omega⟩)) ?_
  refine zH ?_
  refine vP (xM rfl Tryz.func126 rfl rfl rfl htx) ?_
  refine zH ?_
  refine vP (xM rfl Tryz.func124 rfl rfl rfl (e0T _ ⟨by omega,by omega⟩)) ?_
  refine vP (OpW.frz xO (by(unfold maxLen;omega))) ?_
  refine vP (O.callC rfl Tryz.func123 rfl rfl rfl hli (by(repeat(first|exact CoeL.nil|refine CoeL.cons Coe.rfl ?_|refine CoeL.cons Coe.nil ?_|refine CoeL.cons (Coe.ro ?_) ?_));done)) ?_
  refine vP (xM rfl Tryz.func122 rfl rfl rfl hra) ?_
  refine vB ?_
  refine vb ?_
  simp only[a0h,cN,cA,cP]
  refine zJ (zn (xj ?_))
  refine yM
def u0o (kid pb:List UInt8):List It:= [.mk 0 ((1:Nat):Int) [] [],.mk 4 0 [] [.mk 0 ((10:Nat):Int) [] []],.mk 2 0 kid [],.mk 2 0 pb [],.mk 2 0 [] []]
def j0P (kid pb:List UInt8):List UInt8:=g0U [f0q 1,g0U [f0q 10],c0H kid,c0H pb,c0H []]
theorem r0M {kid pb:List UInt8}(h1:kid.length<24)(h2:pb.length<24):(It.mk 4 0 [] (u0o kid pb)).enc=j0P kid pb:=by
 have e:(u0o kid pb).map It.enc= [f0q 1,g0U [f0q 10],c0H kid,c0H pb,c0H []]:=by
  show [(It.mk 0 ((1:Nat):Int) [] []).enc,(It.mk 4 0 [] [.mk 0 ((10:Nat):Int) [] []]).enc,(It.mk 2 0 kid []).enc,(It.mk 2 0 pb []).enc,(It.mk 2 0 [] []).enc]=_
  rw[f0y (k:=2) (m:=2) rfl (.inl rfl) h1,f0y (k:=2) (m:=2) rfl (.inl rfl) h2,f0y (k:=2) (m:=2) rfl (.inl rfl) (by simp),r0u (by omega),p0s (by simp),List.map_cons,List.map_nil,r0u (by omega)]
  rfl
 rw[p0s (by show 5<24;omega),e];rfl
theorem f0L {kid pb:List UInt8}(h1:kid.length≤7)(h2:pb.length≤5):(j0P kid pb).length<24:=by
 unfold j0P g0U c0H f0q
 rw[b0o (show kid.length<24 by omega),b0o (show pb.length<24 by omega)]
 simp[b0o];omega
def s0w (x:List UInt8):List It:= [.mk 3 0 i0E [],.mk 2 0 [] [],.mk 2 0 x []]
theorem r0L {kid pb:List UInt8}(h1:kid.length≤7)(h2:pb.length≤5):(It.mk 4 0 [] (s0w (j0P kid pb))).enc=u0p kid pb:=by
 have h3:=f0L h1 h2
 have e:(s0w (j0P kid pb)).map It.enc= [l0e i0E,c0H [],c0H (j0P kid pb)]:=by
  show [(It.mk 3 0 i0E []).enc,(It.mk 2 0 [] []).enc,(It.mk 2 0 (j0P kid pb) []).enc]=_
  rw[f0y (k:=3) (m:=3) (b:=i0E) rfl (.inr rfl) (by decide),f0y (k:=2) (m:=2) rfl (.inl rfl) (by simp),f0y (k:=2) (m:=2) rfl (.inl rfl) h3]
  rfl
 rw[p0s (by show 3<24;omega),e];rfl
def i0F (kid:List UInt8)(piv:Int):List UInt8×Int:=if 7<kid.length then([],1)else if piv<0∨1099511627775<piv then([],8)else(u0p kid (b0T piv),0)
abbrev by8 (a:UInt8):AV:= .val (.int .u8 (a.toNat:Int))
theorem d0j {p:UInt8→Prop}(h: ∀n:Nat,n<256→p (UInt8.ofNat n))(a:UInt8):p a:=by
 have:=h a.toNat a.toNat_lt
 rwa [UInt8.ofNat_toNat]at this
def dbl (a:UInt8):UInt8:=if a&&&128=0 then a<<<1 else(a<<<1)^^^27
theorem u0b (a:UInt8):Go.bits .xor .u8 (IntKind.u8.wrap ((a.toNat:Int)*2)) 27=(((a<<<1)^^^27).toNat:Int):=d0j (p:=fun a=>Go.bits .xor .u8 (IntKind.u8.wrap ((a.toNat:Int)*2)) 27=(((a<<<1)^^^27).toNat:Int)) (by decide +kernel) a
theorem u0c (a:UInt8):IntKind.u8.wrap ((a.toNat:Int)*2)=((a<<<1).toNat:Int):=d0j (p:=fun a=>IntKind.u8.wrap ((a.toNat:Int)*2)=((a<<<1).toNat:Int)) (by decide +kernel) a
theorem w0V (a:UInt8):Go.bits .and .u8 (a.toNat:Int) 128=((a&&&128).toNat:Int):=d0j (p:=fun a=>Go.bits .and .u8 (a.toNat:Int) 128=((a&&&128).toNat:Int)) (by decide +kernel) a
theorem x0F (a:UInt8):Go.bits .and .u8 (a.toNat:Int) 1=((a&&&1).toNat:Int):=d0j (p:=fun a=>Go.bits .and .u8 (a.toNat:Int) 1=((a&&&1).toNat:Int)) (by decide +kernel) a
theorem l0g {a:UInt8}:(a.toNat:Int)=0↔a=0:=⟨fun h=>UInt8.toNat_inj.1 (by simpa using h),fun h=>by subst h;rfl⟩
theorem l0f {a:UInt8}:(a.toNat:Int)=1↔a=1:=⟨fun h=>UInt8.toNat_inj.1 (by simp;omega),fun h=>by subst h;rfl⟩
theorem l0Z (a:UInt8):Sp Tryz.prog 195 [by8 a] [] (Is (by8 (dbl a))):=by
 refine yX Tryz.func195 _ Tryz.ntmps195 (fun w0 R0=> ?_)
 refine zD (zr ?_)
 refine zc (zJ (zn (zD (zD (zr ?_)))))
 refine zb ?_
 refine vO (O.and_ rfl rfl rfl (w0V a)) ?_
 refine y2 (zJ (zn ?_))
 refine yt (fun h=> ?_) (fun h=> ?_)<;>(try simp only[vT]at h)
 ·rw[l0g]at h
  refine zD (zr ?_)
  refine zb ?_
  refine vO (O.shlK 1 2 rfl rfl rfl rfl (by rfl) (by rfl)) ?_
  refine vO (O.xor_ rfl rfl rfl (u0b a)) ?_
  refine zc (zJ (zn (xj (xx ?_))))
  refine vz rfl rfl nS (⟨by rw[dbl,if_neg h],rfl⟩)
 rw[l0g]at h
 refine y6 (zn (zD (zr ?_)))
 refine zb ?_
 refine vO (O.shlK 1 2 rfl rfl rfl rfl (by rfl) (by rfl)) ?_
 refine zc (zJ (zn (xj ?_)))
 refine vz rfl rfl nS (⟨by rw[dbl,if_pos h,u0c],rfl⟩)
def w0e (a:UInt8)(k:Nat):UInt8:=u8 (Go.bits .or .u8 (IntKind.u8.wrap ((a.toNat:Int)*2^min ((k:Int)%8).toNat IntKind.u8.bits)) (((a.toNat:Int)).fdiv (2^min (8-(k:Int)%8).toNat IntKind.u8.bits)))
theorem s0X (a:UInt8){k:Nat}(hk:k<8):Go.bits .or .u8 (IntKind.u8.wrap ((a.toNat:Int)*2^min ((k:Int)%8).toNat IntKind.u8.bits)) (((a.toNat:Int)).fdiv (2^min (8-(k:Int)%8).toNat IntKind.u8.bits))=((w0e a k).toNat:Int):=
 d0j (p:=fun a=> ∀k:Nat,k<8→Go.bits .or .u8 (IntKind.u8.wrap ((a.toNat:Int)*2^min ((k:Int)%8).toNat IntKind.u8.bits)) (((a.toNat:Int)).fdiv (2^min (8-(k:Int)%8).toNat IntKind.u8.bits))=((w0e a k).toNat:Int)) (by decide +kernel) a k hk
theorem s0Y (a:UInt8)(k:Nat)(hk:k<8):Sp Tryz.prog 196 [by8 a,.val (.int .i64 (k:Int))] [] (Is (by8 (w0e a k))):=by
 refine yX Tryz.func196 _ Tryz.ntmps196 (fun w0 R0=> ?_)
 refine zD (zr ?_)
 refine zc (zJ (zn (zD (zr ?_))))
 refine zb ?_
 refine wg ?_
 refine vO (O.and_ rfl rfl rfl (s0r 3 (by decide) (by decide) (m:=8) (by decide) (by omega))) ?_
 refine zc (zJ (zn (zD (zr ?_))))
 refine zb ?_
 refine zb ?_
 refine vO (O.shl rfl rfl rfl (by omega) rfl) ?_
 refine zb ?_
 refine zb ?_
 refine vO (O.sub rfl rfl rfl (by exact q0g (by omega))) ?_
 refine vO (O.shr rfl rfl rfl (by omega) rfl) ?_
 refine vO (O.or_ rfl rfl rfl rfl) ?_
 refine zc (zJ (zn (xj ?_)))
 refine vz rfl rfl nS (⟨by rw[s0X a hk],rfl⟩)
def i0Z:Nat→UInt8→UInt8→UInt8→UInt8
 |0,_,_,p=>p
 |n+1,a,b,p=>i0Z n (dbl a) (b>>>1) (if b&&&1=1 then p^^^a else p)
def m0F (a b:UInt8):UInt8:=i0Z 8 a b 0
theorem h0n: ∀n a p,i0Z n a 0 p=p
 |0,_,_=>rfl
 |n+1,a,p=>by
  show i0Z n (dbl a) ((0:UInt8)>>>1) (if(0:UInt8)&&&1=1 then p^^^a else p)=p
  rw[show(0:UInt8)>>>1=0 from rfl,if_neg (by decide)]
  exact h0n n _ p
theorem x0l (b:UInt8):((b>>>1).toNat:Int)=(b.toNat:Int)/2:=d0j (p:=fun b=>((b>>>1).toNat:Int)=(b.toNat:Int)/2) (by decide +kernel) b
theorem m0E (a b:UInt8):Sp Tryz.prog 212 [by8 a,by8 b] [] (Is (by8 (m0F a b))):=by
 refine yX Tryz.func212 _ Tryz.ntmps212 (fun w0 R0=> ?_)
 refine zD (zr ?_)
 refine zc (zJ (zn (zD (zr ?_))))
 refine zc (zJ (zn (zD (xo ?_))))
 refine AW.loopK [] (fun nn E H=> ∃(x:UInt8) (y:UInt8) (p:UInt8) (m:Nat),(i0Z m x y p=m0F a b)∧(y.toNat<2^m)∧nn=y.toNat∧E= [(0,by8 x),(1,by8 y),(5,by8 p)]∧H= []) _ (⟨a,b,0,8,rfl,b.toNat_lt,rfl,rfl,rfl⟩) (by repeat(exact a0l)) (by repeat(first|exact a0l|refine a0j rfl ?_)) (by repeat(exact a0H)) ?_
 rintro nn E H ⟨x,y,p,m,hp,hm,rfl,rfl,rfl⟩
 dsimp only[cA,cN]
 refine zD (zD (zr ?_))
 refine zb ?_
 refine y2 (zJ (zn ?_))
 refine yt (fun h=> ?_) (fun h=> ?_)<;>(try simp only[vT]at h)
 ·rw[l0g]at h
  obtain⟨m,rfl⟩: ∃m',m=m'+1:=by
   cases m with
   |zero=>exact absurd (UInt8.toNat_inj.1 (by simpa using hm)) h
   |succ m=>exact⟨m,rfl⟩
  have hpos:0<y.toNat:=by
   rcases Nat.eq_zero_or_pos y.toNat with h0|h0
   ·exact absurd (UInt8.toNat_inj.1 h0) h
   exact h0
  have hsh:=x0l y
  have hm2:(y>>>1).toNat<2^m:=by rw[Nat.pow_succ]at hm;omega
  refine y6 (zn (zD (xo (zD (zD (zr ?_))))))
  refine zb ?_
  refine vO (O.and_ rfl rfl rfl (x0F _)) ?_
  refine z8 (zJ (zn ?_))
  refine yt (fun h1=> ?_) (fun h1=> ?_)<;>(try simp only[vT]at h1)
  ·rw[l0f]at h1
   refine zr ?_
   refine zb ?_
   refine zb ?_
   refine vE ?_
   refine zc (zJ (zn (zr ?_)))
   refine zb ?_
   refine vO (xM rfl Tryz.func195 rfl rfl rfl (l0Z _)) ?_
   refine zc (zJ (xE (zn (zr ?_))))
   refine zb ?_
   refine vO (wC 1 2) ?_
   refine zc (zJ ?_)
   rw[←hsh]
   refine wJ _ _ _ (by omega) (⟨dbl x,y>>>1,p^^^x,m,by rw[←hp,i0Z,if_pos h1],hm2,rfl,rfl,rfl⟩)
  rw[l0f]at h1
  refine y6 (zn (zr ?_))
  refine zb ?_
  refine vO (xM rfl Tryz.func195 rfl rfl rfl (l0Z _)) ?_
  refine zc (zJ (xE (zn (zr ?_))))
  refine zb ?_
  refine vO (wC 1 2) ?_
  refine zc (zJ ?_)
  rw[←hsh]
  refine wJ _ _ _ (by omega) (⟨dbl x,y>>>1,p,m,by rw[←hp,i0Z,if_neg h1],hm2,rfl,rfl,rfl⟩)
 rw[l0g]at h
 subst h
 rw[h0n]at hp
 subst hp
 refine wj ?_
 refine x8 ?_
 refine wd ?_
 refine xD (zn (zD (zr ?_)))
 refine zb ?_
 refine zc (zJ (zn (xj ?_)))
 refine yM
def w0h:Nat→UInt8→UInt8→UInt8→UInt8
 |0,_,_,p=>p
 |n+1,a,b,p=>w0h n (dbl a) (b>>>1) (if b&&&1=1 then p^^^a else p)
theorem o0W: ∀n a b p,w0h n a b p=i0Z n a b p
 |0,_,_,_=>rfl
 |n+1,a,b,p=>o0W n _ _ _
theorem w0d (a:UInt8):((a.toNat:Int)/128=1)↔ ¬a&&&128=0:=d0j (p:=fun a=>((a.toNat:Int)/128=1)↔ ¬a&&&128=0) (by decide +kernel) a
theorem v0K {a:UInt8}(h: ¬a&&&128=0):dbl a=(a<<<1)^^^27:=if_neg h
theorem v0L {a:UInt8}(h:a&&&128=0):dbl a=a<<<1:=if_pos h
theorem o0V (a b:UInt8):Sp Tryz.prog 209 [by8 a,by8 b] [] (Is (by8 (m0F a b))):=by
 refine yX Tryz.func209 _ Tryz.ntmps209 (fun w0 R0=> ?_)
 refine zD (zr ?_)
 refine zc (zJ (zn (zD (zr ?_))))
 refine zc (zJ (zn (zD (zD (zr ?_)))))
 refine zb (zJ (zn (xo ?_)))
 refine AW.loopK [] (fun nn E H=> ∃(k:Nat) (x:UInt8) (y:UInt8) (p:UInt8),(k≤8)∧(w0h (8-k) x y p=m0F a b)∧nn=8-k∧E= [(0,by8 x),(1,by8 y),(5,by8 p),(7,.val (.int .i64 (k:Int)))]∧H= []) _ (⟨0,a,b,0,by omega,o0W 8 a b 0,rfl,rfl,rfl⟩) (by repeat(exact a0l)) (by repeat(first|exact a0l|refine a0j rfl ?_)) (by repeat(exact a0H)) ?_
 rintro nn E H ⟨k,x,y,p,hk,hp,rfl,rfl,rfl⟩
 dsimp only[cA,cN]
 refine zD (zr ?_)
 refine zT (zJ (zn (zD ?_)))
 refine yt (fun h=> ?_) (fun h=> ?_)<;>(try simp only[vT]at h)
 ·obtain⟨m,hm⟩: ∃m,8-k=m+1:=⟨7-k,by omega⟩
  have hm':8-(k+1)=m:=by omega
  rw[hm,w0h]at hp
  have hsh:=x0l y
  refine y6 (zn (zD (xo (zD (zD (zr ?_))))))
  refine zb ?_
  refine vO (O.and_ rfl rfl rfl (x0F _)) ?_
  refine z8 (zJ (zn ?_))
  refine yt (fun h1=> ?_) (fun h1=> ?_)<;>(try simp only[vT]at h1)
  ·rw[l0f]at h1
   rw[if_pos h1]at hp
   refine zr ?_
   refine zb ?_
   refine zb ?_
   refine vE ?_
   refine zc (zJ (zn (zD (zr ?_))))
   refine zb ?_
   refine vO (wC 7 128) ?_
   refine zc (zJ (zn (zD (zr ?_))))
   refine zb ?_
   refine vO (O.shlK 1 2 rfl rfl rfl rfl (by rfl) (by rfl)) ?_
   refine zc (zJ (zn (zD (zD (zr ?_)))))
   refine zb ?_
   refine z8 (zJ (zn ?_))
   refine yt (fun h2=> ?_) (fun h2=> ?_)<;>(try simp only[vT]at h2)
   ·rw[w0d]at h2
    refine zr ?_
    refine zb ?_
    refine vO (O.xor_ rfl rfl rfl (u0b _)) ?_
    refine zc (zJ (zn (zr ?_)))
    refine zb ?_
    refine vO (wC 1 2) ?_
    refine zc (zJ (xE (zn (zr ?_))))
    refine zB ?_
    refine zb (zJ ?_)
    rw[←hsh]
    rw[←v0K h2]
    refine wJ _ _ _ (by omega) (⟨k+1,dbl x,y>>>1,p^^^x,by omega,by rw[hm'];exact hp,rfl,rfl,rfl⟩)
   rw[w0d,Decidable.not_not]at h2
   refine y6 (zn (zr ?_))
   refine zb ?_
   refine vO (wC 1 2) ?_
   refine zc (zJ (xE (zn (zr ?_))))
   refine zB ?_
   refine zb (zJ ?_)
   rw[←hsh,u0c]
   rw[←v0L h2]
   refine wJ _ _ _ (by omega) (⟨k+1,dbl x,y>>>1,p^^^x,by omega,by rw[hm'];exact hp,rfl,rfl,rfl⟩)
  rw[l0f]at h1
  rw[if_neg h1]at hp
  refine y6 (zn (zD (zr ?_)))
  refine zb ?_
  refine vO (wC 7 128) ?_
  refine zc (zJ (zn (zD (zr ?_))))
  refine zb ?_
  refine vO (O.shlK 1 2 rfl rfl rfl rfl (by rfl) (by rfl)) ?_
  refine zc (zJ (zn (zD (zD (zr ?_)))))
  refine zb ?_
  refine z8 (zJ (zn ?_))
  refine yt (fun h2=> ?_) (fun h2=> ?_)<;>(try simp only[vT]at h2)
  ·rw[w0d]at h2
   refine zr ?_
   refine zb ?_
   refine vO (O.xor_ rfl rfl rfl (u0b _)) ?_
   refine zc (zJ (zn (zr ?_)))
   refine zb ?_
   refine vO (wC 1 2) ?_
   refine zc (zJ (xE (zn (zr ?_))))
   refine zB ?_
   refine zb (zJ ?_)
   rw[←hsh]
   rw[←v0K h2]
   refine wJ _ _ _ (by omega) (⟨k+1,dbl x,y>>>1,p,by omega,by rw[hm'];exact hp,rfl,rfl,rfl⟩)
  rw[w0d,Decidable.not_not]at h2
  refine y6 (zn (zr ?_))
  refine zb ?_
  refine vO (wC 1 2) ?_
  refine zc (zJ (xE (zn (zr ?_))))
  refine zB ?_
  refine zb (zJ ?_)
  rw[←hsh,u0c]
  rw[←v0L h2]
  refine wJ _ _ _ (by omega) (⟨k+1,dbl x,y>>>1,p,by omega,by rw[hm'];exact hp,rfl,rfl,rfl⟩)
 obtain rfl:k=8:=by omega
 have hp:p=m0F a b:=hp
 subst hp
 refine wj ?_
 refine x8 ?_
 refine wd ?_
 refine xD (zn (zD (zr ?_)))
 refine zb ?_
 refine zc (zJ (zn (xj ?_)))
 refine yM
def s0W (a:UInt8)(k:Nat):UInt8:=u8 (Go.bits .or .u8 (IntKind.u8.wrap ((a.toNat:Int)*2^min ((k:Int)).toNat IntKind.u8.bits)) (((a.toNat:Int)).fdiv (2^min (8-(k:Int)).toNat IntKind.u8.bits)))
theorem s0V (a:UInt8){k:Nat}(hk:k<8):Go.bits .or .u8 (IntKind.u8.wrap ((a.toNat:Int)*2^min ((k:Int)).toNat IntKind.u8.bits)) (((a.toNat:Int)).fdiv (2^min (8-(k:Int)).toNat IntKind.u8.bits))=((s0W a k).toNat:Int):=
 d0j (p:=fun a=> ∀k:Nat,k<8→Go.bits .or .u8 (IntKind.u8.wrap ((a.toNat:Int)*2^min ((k:Int)).toNat IntKind.u8.bits)) (((a.toNat:Int)).fdiv (2^min (8-(k:Int)).toNat IntKind.u8.bits))=((s0W a k).toNat:Int)) (by decide +kernel) a k hk
theorem l0t (a:UInt8)(k:Nat)(hk:k<8):Sp Tryz.prog 210 [by8 a,.val (.int .i64 (k:Int))] [] (Is (by8 (s0W a k))):=by
 refine yX Tryz.func210 _ Tryz.ntmps210 (fun w0 R0=> ?_)
 refine zD (zr ?_)
 refine zc (zJ (zn (zD (zr ?_))))
 refine zb ?_
 refine zb ?_
 refine wg ?_
 refine vO (O.shl rfl rfl rfl (by omega) rfl) ?_
 refine zb ?_
 refine zb ?_
 refine yN ?_
 refine wg ?_
 refine vO (O.shr rfl rfl rfl (by omega) rfl) ?_
 refine vO (O.or_ rfl rfl rfl rfl) ?_
 refine zc (zJ (zn (xj ?_)))
 refine vz rfl rfl nS (⟨by rw[s0V a hk],rfl⟩)
end Go.Proofs.YtojomcdjcpmnkaaGreat.By
namespace Go.Proofs.YtojomcdjcpmnkaaGreat.By
open Go.RowKit L A
def k256:List UInt32:= [0x428a2f98,0x71374491,0xb5c0fbcf,0xe9b5dba5,0x3956c25b,0x59f111f1,0x923f82a4,0xab1c5ed5,0xd807aa98,0x12835b01,0x243185be,0x550c7dc3,0x72be5d74,0x80deb1fe,0x9bdc06a7,0xc19bf174,0xe49b69c1,0xefbe4786,0x0fc19dc6,0x240ca1cc,0x2de92c6f,0x4a7484aa,0x5cb0a9dc,0x76f988da,0x983e5152,0xa831c66d,0xb00327c8,0xbf597fc7,0xc6e00bf3,0xd5a79147,0x06ca6351,0x14292967,0x27b70a85,0x2e1b2138,0x4d2c6dfc,0x53380d13,0x650a7354,0x766a0abb,0x81c2c92e,0x92722c85,0xa2bfe8a1,0xa81a664b,0xc24b8b70,0xc76c51a3,0xd192e819,0xd6990624,0xf40e3585,0x106aa070,0x19a4c116,0x1e376c08,0x2748774c,0x34b0bcb5,0x391c0cb3,0x4ed8aa4a,0x5b9cca4f,0x682e6ff3,0x748f82ee,0x78a5636f,0x84c87814,0x8cc70208,0x90befffa,0xa4506ceb,0xbef9a3f7,0xc67178f2]
structure H8 where
 a:UInt32
 b:UInt32
 c:UInt32
 d:UInt32
 e:UInt32
 f:UInt32
 g:UInt32
 h:UInt32
 deriving DecidableEq
def r0o:H8:=⟨0x6a09e667,0xbb67ae85,0x3c6ef372,0xa54ff53a,0x510e527f,0x9b05688c,0x1f83d9ab,0x5be0cd19⟩
def rr (x n:UInt32):UInt32:=(x>>>n)|||(x<<<(32-n))
def m0m (b:List UInt8)(t:Nat):UInt32:=((b.getD (4*t) 0).toUInt32<<<24)|||((b.getD (4*t+1) 0).toUInt32<<<16)|||((b.getD (4*t+2) 0).toUInt32<<<8)|||(b.getD (4*t+3) 0).toUInt32
def m0K (w:List UInt32)(t:Nat):UInt32:=
 let x:=w.getD (t-15) 0
 let y:=w.getD (t-2) 0
 (rr y 17^^^rr y 19^^^ (y>>>10))+w.getD (t-7) 0+(rr x 7^^^rr x 18^^^ (x>>>3))+w.getD (t-16) 0
def wTo (b:List UInt8):Nat→List UInt32
 |0=> []
 |t+1=>let w:=wTo b t;w++[if t<16 then m0m b t else m0K w t]
def rnd (k w:UInt32)(s:H8):H8:=
 let t1:=s.h+(rr s.e 6^^^rr s.e 11^^^rr s.e 25)+((s.e&&&s.f)^^^ (~~~s.e&&&s.g))+k+w
 let t2:=(rr s.a 2^^^rr s.a 13^^^rr s.a 22)+((s.a&&&s.b)^^^ (s.a&&&s.c)^^^ (s.b&&&s.c))
 ⟨t1+t2,s.a,s.b,s.c,s.d+t1,s.e,s.f,s.g⟩
def t0a (w:List UInt32)(s:H8):Nat→H8
 |0=>s
 |t+1=>rnd (k256.getD t 0) (w.getD t 0) (t0a w s t)
def x0b (x y:H8):H8:=⟨x.a+y.a,x.b+y.b,x.c+y.c,x.d+y.d,x.e+y.e,x.f+y.f,x.g+y.g,x.h+y.h⟩
def m0e (h:H8)(b:List UInt8):H8:=x0b h (t0a (wTo b 64) h 64)
def j0c (n:Nat):Nat:=(119-n%64)%64
def v0u (n:Nat):List UInt8:= [56,48,40,32,24,16,8,0].map fun s=>UInt8.ofNat (n*8/2^s)
def q0P (b:List UInt8):List UInt8:=b++[128]++List.replicate (j0c b.length) 0++v0u b.length
def d0y (p:List UInt8):Nat→H8
 |0=>r0o
 |k+1=>m0e (d0y p k) ((p.drop (64*k)).take 64)
def w4 (x:UInt32):List UInt8:= [(x>>>24).toUInt8,(x>>>16).toUInt8,(x>>>8).toUInt8,x.toUInt8]
def w0I (h:H8):List UInt8:=w4 h.a++w4 h.b++w4 h.c++w4 h.d++w4 h.e++w4 h.f++w4 h.g++w4 h.h
def sha (b:List UInt8):List UInt8:=w0I (d0y (q0P b) ((q0P b).length/64))
theorem h0O (b:List UInt8):(sha b).length=32:=rfl
theorem q0O (b:List UInt8):(q0P b).length%64=0:=by
 simp only[q0P,cH,List.length_replicate,List.length_singleton,show(v0u b.length).length=8 from rfl,j0c]
 omega
def t0R (k:List UInt8):List UInt8:=let x:=if 64<k.length then sha k else k;x++List.replicate (64-x.length) 0
def j0T (k b:List UInt8):List UInt8:=sha ((t0R k).map (· ^^^92)++sha ((t0R k).map (· ^^^54)++b))
theorem r0m (k b:List UInt8):(j0T k b).length=32:=rfl
def k0G (prk info:List UInt8):Nat→List UInt8
 |0=> []
 |k+1=>j0T prk (k0G prk info k++info++[UInt8.ofNat (k+1)])
def c0L (prk info:List UInt8)(k:Nat):List UInt8:=(List.range k).flatMap fun i=>k0G prk info (i+1)
def e0c (prk info:List UInt8)(n:Nat):List UInt8:=(c0L prk info ((n+31)/32)).take n
def l0X:List UInt8:= [1,2,3,4,5,6,7,8,9,10,11,12,13,14,15,16]
def s0j:List UInt8:= [0x9e,0x7c,0xa9,0x22,0x23,0x78,0x63,0x40]
def p0o:List UInt8:= [0xbf,0x4f,0x72,0xde,0x4e,0xed,0x44,0xa4,0x95,0x13,0x90,0xe7,0x12,0x78,0x49,0xde,0x97,0xd6,0x17,0xb1,0x94,0x0f,0x1a,0xb6,0xc1,0x82,0xb8,0xa1,0x47,0xdb,0x8d,0xc4]
theorem v0G:j0T s0j l0X=p0o:=by decide +kernel
theorem v0H:e0c p0o [0x85,0x40,0xf6,0x0a,0x63,0x4b,0x65,0x79,0x10] 16= [0xf0,0x91,0x0e,0xd7,0x29,0x5e,0x6a,0xd4,0xb5,0x4f,0xc7,0x93,0x15,0x43,0x02,0xff]:=by decide +kernel
theorem t0X:e0c p0o [0x85,0x41,0x01,0xf6,0x0a,0x63,0x4b,0x65,0x79,0x10] 16= [0xff,0xb1,0x4e,0x09,0x3c,0x94,0xc9,0xca,0xc9,0x47,0x16,0x48,0xb4,0xf9,0x87,0x10]:=by decide +kernel
theorem w0S:e0c p0o [0x85,0x40,0xf6,0x0a,0x62,0x49,0x56,0x0d] 13= [0x46,0x22,0xd4,0xdd,0x6d,0x94,0x41,0x68,0xee,0xfb,0x54,0x98,0x7c]:=by decide +kernel
end Go.Proofs.YtojomcdjcpmnkaaGreat.By
namespace Go.Proofs.YtojomcdjcpmnkaaGreat.A
open Go.RowKit L
theorem d0C (x:Int):IntKind.u32.wrap x=x%4294967296:=by
 show(if false=true∧x% (2^32)≥2^ (32-1)then x% (2^32)-2^32 else x% (2^32))=_
 rw[if_neg (by simp)];rfl
theorem f0Q (n:Int)(h0:0≤n)(h1:n<2^32):IntKind.u32.wrap n=n:=by rw[d0C];omega
theorem g0R {a b:UInt32}:IntKind.u32.wrap ((a.toNat:Int)+(b.toNat:Int))=((a+b).toNat:Int):=by
 rw[d0C,UInt32.toNat_add];omega
theorem u0I {a b:UInt32}:Go.bits .xor .u32 (a.toNat:Int) (b.toNat:Int)=((a^^^b).toNat:Int):=by
 have e:(BitVec.ofInt 32 (a.toNat:Int)^^^BitVec.ofInt 32 (b.toNat:Int)).toNat=(a^^^b).toNat:=by
  rw[BitVec.toNat_xor,BitVec.ofInt_natCast,BitVec.ofInt_natCast,BitVec.toNat_ofNat,BitVec.toNat_ofNat,Nat.mod_eq_of_lt a.toNat_lt,Nat.mod_eq_of_lt b.toNat_lt,UInt32.toNat_xor]
 show IntKind.u32.wrap ((BitVec.ofInt 32 (a.toNat:Int)^^^BitVec.ofInt 32 (b.toNat:Int)).toNat:Int)=_
 rw[e]
 have:=(a^^^b).toNat_lt
 exact f0Q _ (by omega) (by omega)
theorem p0N {a b:UInt32}:Go.bits .and .u32 (a.toNat:Int) (b.toNat:Int)=((a&&&b).toNat:Int):=by
 have e:(BitVec.ofInt 32 (a.toNat:Int)&&&BitVec.ofInt 32 (b.toNat:Int)).toNat=(a&&&b).toNat:=by
  rw[BitVec.toNat_and,BitVec.ofInt_natCast,BitVec.ofInt_natCast,BitVec.toNat_ofNat,BitVec.toNat_ofNat,Nat.mod_eq_of_lt a.toNat_lt,Nat.mod_eq_of_lt b.toNat_lt,UInt32.toNat_and]
 show IntKind.u32.wrap ((BitVec.ofInt 32 (a.toNat:Int)&&&BitVec.ofInt 32 (b.toNat:Int)).toNat:Int)=_
 rw[e]
 have:=(a&&&b).toNat_lt
 exact f0Q _ (by omega) (by omega)
theorem w0g {a b:UInt32}:Go.bits .or .u32 (a.toNat:Int) (b.toNat:Int)=((a|||b).toNat:Int):=by
 have e:(BitVec.ofInt 32 (a.toNat:Int)|||BitVec.ofInt 32 (b.toNat:Int)).toNat=(a|||b).toNat:=by
  rw[BitVec.toNat_or,BitVec.ofInt_natCast,BitVec.ofInt_natCast,BitVec.toNat_ofNat,BitVec.toNat_ofNat,Nat.mod_eq_of_lt a.toNat_lt,Nat.mod_eq_of_lt b.toNat_lt,UInt32.toNat_or]
 show IntKind.u32.wrap ((BitVec.ofInt 32 (a.toNat:Int)|||BitVec.ofInt 32 (b.toNat:Int)).toNat:Int)=_
 rw[e]
 have:=(a|||b).toNat_lt
 exact f0Q _ (by omega) (by omega)
theorem w0t {a:UInt32}{n:Nat}(hn:n<32):((a.toNat:Int)).fdiv (2^ (min ((n:Int)).toNat IntKind.u32.bits))=((a>>>UInt32.ofNat n).toNat:Int):=by
 rw[Int.toNat_natCast,show IntKind.u32.bits=32 from rfl,Nat.min_eq_left (by omega),UInt32.toNat_shiftRight,UInt32.toNat_ofNat',Nat.shiftRight_eq_div_pow,
  show n%2^32%32=n by rw[Nat.mod_eq_of_lt (show n<2^32 by omega)];omega,Int.fdiv_eq_ediv_of_nonneg _ (Int.le_of_lt (Int.pow_pos (by decide)))]
 simp
theorem w0u {a:UInt32}{n:Nat}(hn:n<32):IntKind.u32.wrap ((a.toNat:Int)*2^ (min ((n:Int)).toNat IntKind.u32.bits))=((a<<<UInt32.ofNat n).toNat:Int):=by
 rw[Int.toNat_natCast,show IntKind.u32.bits=32 from rfl,Nat.min_eq_left (by omega),UInt32.toNat_shiftLeft,UInt32.toNat_ofNat',Nat.shiftLeft_eq,
  show n%2^32%32=n by rw[Nat.mod_eq_of_lt (show n<2^32 by omega)];omega,d0C]
 simp
theorem e0C {b:UInt8}:IntKind.u32.wrap (b.toNat:Int)=(b.toUInt32.toNat:Int):=by
 have:=b.toNat_lt
 rw[d0C,UInt8.toNat_toUInt32];omega
theorem e0D {a:UInt32}:IntKind.u8.wrap (a.toNat:Int)=(a.toUInt8.toNat:Int):=by
 rw[d0m,UInt32.toNat_toUInt8]
 simp only[u8,UInt8.toNat_ofNat']
 omega
section
variable {P:Program}{E:Env}{H:List HE}{N:Nat}{o:Oper}
theorem com32 {a:UInt32}:Go.bits .xor .u32 IntKind.u32.max (a.toNat:Int)=((~~~a).toNat:Int):=by
 have h:IntKind.u32.max=((4294967295:UInt32).toNat:Int):=by decide
 rw[h,u0I]
 congr 2
theorem O.com32 {T:Nat}{x:Operand}{a:UInt32}(ho:o.op= .unOp .xor T x)(hx:ev E x=some (.val (.int .u32 (a.toNat:Int)))):OpW P N o E H (Is (.val (.int .u32 ((~~~a).toNat:Int)))):= .of_run fun R a' W h1 h2 ha=>
 ⟨.int .u32 ((~~~a).toNat:Int),by
  have e:(Op.intBits .xor .u32 IntKind.u32.max (a.toNat:Int)).run P W= .ok (.int .u32 ((~~~a).toNat:Int)) W:=by
   rw[←A.com32];rfl
  simp[execOp,ho,(ha.ev hx).val_inv,Op.unary,show IntKind.u32.signed=false from rfl,e],.val _⟩
end
abbrev e32 (a:UInt32):Value:= .int .u32 (a.toNat:Int)
abbrev e64 (a:UInt64):Value:= .int .u64 (a.toNat:Int)
section
variable {α:Type}{e:α→Value}
def arK (e:α→Value)(n:Nat)(f:Nat→α):List AV:=(List.range n).map fun q=>AV.val (e (f q))
theorem k0V (n:Nat)(f:Nat→α):(arK e n f).length=n:=by simp[arK]
theorem p0L {n:Nat}{f:Nat→α}{k:Nat}(h:k<n){j:Nat}(hj:j=k):(arK e n f)[j]? =some (.val (e (f k))):=by subst hj;simp[arK,h]
theorem g0O {n:Nat}{f g:Nat→α}(h: ∀q,q<n→f q=g q):arK e n f=arK e n g:=List.map_congr_left fun q hq=>by rw[h q (List.mem_range.1 hq)]
theorem k0U {n:Nat}{f:Nat→α}{k:Nat}(h:k<n)(v:α){j:Nat}(hj:j=k):a0e (arK e n f) j [.val (e v)]=arK e n (fun q=>if q=k then v else f q):=by
 subst hj
 show(arK e n f).set j _=_
 apply List.ext_getElem?
 intro q
 rw[List.getElem?_set,arK,arK]
 by_cases hq:q<n
 ·by_cases e':j=q
  ·subst e';simp[h]
  ·simp[hq,e',show ¬q=j from fun e''=>e' e''.symm]
 ·by_cases e':j=q
  ·subst e';omega
  ·simp[hq,e']
end
end Go.Proofs.YtojomcdjcpmnkaaGreat.A
namespace Go.Proofs.YtojomcdjcpmnkaaGreat.By
open Go.RowKit L A
theorem n0B (b:List UInt8): ∀t,(wTo b t).length=t
 |0=>rfl
 |t+1=>by
  show(wTo b t++[_]).length=_
  rw[cH,n0B b t];rfl
theorem q0h (b:List UInt8)(t q:Nat):(wTo b (t+1)).getD q 0=if q=t then(if t<16 then m0m b t else m0K (wTo b t) t)else(wTo b t).getD q 0:=by
 show(wTo b t++[_]).getD q 0=_
 have hl:=n0B b t
 by_cases h:q=t
 ·subst h
  rw[if_pos rfl,List.getD_eq_getElem?_getD,List.getElem?_append_right (by omega),hl]
  simp
 rw[if_neg h]
 simp only[List.getD_eq_getElem?_getD]
 by_cases h2:q<t
 ·rw[List.getElem?_append_left (by omega)]
 rw[List.getElem?_append_right (by omega),hl]
 have h3:1≤q-t:=by omega
 rw[List.getElem?_eq_none (by simpa using h3),List.getElem?_eq_none (by omega)]
def q0c (b:List UInt8)(t:Nat):List AV:=arK e32 64 fun q=>(wTo b t).getD q 0
theorem l0b (b:List UInt8){t:Nat}(ht:t<64){v:UInt32}(hv:v=if t<16 then m0m b t else m0K (wTo b t) t){j:Nat}(hj:j=t):a0e (q0c b t) j [.val (e32 v)]=q0c b (t+1):=by
 unfold q0c
 rw[k0U ht v hj]
 exact g0O fun q _=>by rw[q0h,hv]
theorem e0l (b:List UInt8)(t:Nat){k:Nat}(hk:k<64){j:Nat}(hj:j=k):(q0c b t)[j]? =some (.val (e32 ((wTo b t).getD k 0))):=p0L hk hj
abbrev c8 (s:H8):List AV:= [.val (e32 s.a),.val (e32 s.b),.val (e32 s.c),.val (e32 s.d),.val (e32 s.e),.val (e32 s.f),.val (e32 s.g),.val (e32 s.h)]
theorem o0e (w:List UInt32)(s:H8)(t:Nat):t0a w s (t+1)=rnd (k256.getD t 0) (w.getD t 0) (t0a w s t):=rfl
theorem q0N (n:Nat):(n+1+j0c n)%64=56:=by unfold j0c;omega
theorem k0u {n k:Nat}(h:k<j0c n):(n+1+k)%64≠56:=by unfold j0c at h;omega
theorem o0F (n:Nat):j0c n<64:=by unfold j0c;omega
theorem t0r {n k:Nat}(hk:k≤j0c n)(h:(n+1+k)%64=56):k=j0c n:=by
 by_cases g:k<j0c n
 ·exact absurd h (k0u g)
 omega
def m0O (n k:Nat):List UInt8:=(v0u n).take k
theorem p0b (n:Nat):m0O n 8=v0u n:=rfl
theorem m0N (n:Nat){k:Nat}(hk:k<8):m0O n (k+1)=m0O n k++[UInt8.ofNat (n*8/2^ (8*(7-k)))]:=by
 match k,hk with
 |0,_|1,_|2,_|3,_|4,_|5,_|6,_|7,_=>rfl
theorem u0V (b:List UInt8){p:List UInt8}{k:Nat}(hp:p=q0P b)(hk:64*k=p.length):w0I (d0y p k)=sha b:=by
 subst hp
 unfold sha
 rw[←hk,Nat.mul_div_cancel_left _ (by omega)]
theorem r0j (k:List UInt8):(t0R k).length=64:=by
 unfold t0R
 by_cases h:64<k.length
 ·simp only[if_pos h,cH,List.length_replicate,h0O]
 simp only[if_neg h,cH,List.length_replicate];omega
theorem i0s (prk info:List UInt8)(k:Nat):(k0G prk info (k+1)).length=32:=rfl
theorem g0A (prk info:List UInt8)(k:Nat):c0L prk info (k+1)=c0L prk info k++k0G prk info (k+1):=by
 unfold c0L
 rw[List.range_succ,List.flatMap_append]
 simp
theorem f0f (prk info:List UInt8): ∀k,(c0L prk info k).length=32*k
 |0=>rfl
 |k+1=>by rw[g0A,cH,f0f prk info k,i0s];omega
theorem f0e {prk info:List UInt8}{n:Nat}:(e0c prk info n).length=n:=by
 unfold e0c
 rw[List.length_take,f0f]
 omega
end Go.Proofs.YtojomcdjcpmnkaaGreat.By
namespace Go.Proofs.YtojomcdjcpmnkaaGreat.A
open Go.RowKit L
section
variable {Γ:Cx}{P:Program}{Q:Exit→Act→World→Prop}{E:Env}{H:List HE}{N:Nat}{o:Oper}{ops:Array Oper}{rest:List Oper}
theorem O.sliceLHm {m:Nat}{T:Nat}{x y y':Operand}{full:Bool}{n:Nat}{l h:Nat}{kk kk':IntKind}{z z':Int}{xs ys:List AV}{U sz bs:Nat}{zz:Value}[hs:TyS P T U sz bs zz](ho:o.op= .slice T x (some y) (some y') none)(hx:ev E x=some (.ro full n xs))(hy:ev E y=some (.val (.int kk z)))(hy':ev E y'=some (.val (.int kk' z')))
  (hz:z=(l:Int)) (hz':z'=(h:Int)) (hlh:l≤h) (hhn:h≤n) (hm:h-l=m) (hys:(xs.drop (l*sz)).take (m*sz)=ys):OpW P N o E H (Is (.ro false m ys)):=by
 subst hm
 exact O.sliceLH ho hx hy hy' hz hz' hlh hhn hys
end
theorem k0W {n m:Nat}{f g:Nat→UInt8}:arB n f++arB m g=arB (n+m) (fun q=>if q<n then f q else g (q-n)):=by
 apply List.ext_getElem?
 intro q
 rw[List.getElem?_append,a0b]
 by_cases h:q<n
 ·rw[if_pos h,a0o h rfl,a0o (k:=q) (by omega) rfl,if_pos h]
 ·rw[if_neg h]
  by_cases h2:q<n+m
  ·rw[a0o (k:=q-n) (by omega) rfl,a0o (k:=q) h2 rfl,if_neg h]
  ·rw[List.getElem?_eq_none (by rw[a0b];omega),List.getElem?_eq_none (by rw[a0b];omega)]
end Go.Proofs.YtojomcdjcpmnkaaGreat.A
namespace Go.Proofs.YtojomcdjcpmnkaaGreat.By
open Go.RowKit L A
attribute [local irreducible] AW AQ AO
theorem l0l {a:UInt32}{n:Nat}{z:Int}(hz:z=(n:Int))(hn:n<32):IntKind.u32.wrap ((a.toNat:Int)*2^ (min z.toNat IntKind.u32.bits))=((a<<<UInt32.ofNat n).toNat:Int):=by
 subst hz;exact w0u hn
theorem h0f {a:UInt32}{n:Nat}{z:Int}(hz:z=(n:Int))(hn:n<32):((a.toNat:Int)).fdiv (2^ (min z.toNat IntKind.u32.bits))=((a>>>UInt32.ofNat n).toNat:Int):=by
 subst hz;exact w0t hn
theorem q0x (x:UInt32)(n:Nat)(hn:0<n∧n<32):Sp Tryz.prog 211 [.val (e32 x),.val (.int .i64 (0-(n:Int)))] [] (Is (.val (e32 (rr x (UInt32.ofNat n))))):=by
 have hw:IntKind.u64.wrap (0-(n:Int))=18446744073709551616-(n:Int):=by rw[IntKind.wrap_u64];omega
 have hr:(x<<<UInt32.ofNat (32-n))|||(x>>>UInt32.ofNat n)=rr x (UInt32.ofNat n):=by
  unfold rr
  rw[UInt32.or_comm,show(32:UInt32)-UInt32.ofNat n=UInt32.ofNat (32-n) by rw[UInt32.ofNat_sub (by omega)];rfl]
 refine yX Tryz.func211 _ Tryz.ntmps211 (fun w0 R0=> ?_)
 refine zD (zr ?_)
 refine zc (zJ (zn (zD (zr ?_))))
 refine zb ?_
 refine vO (O.conv rfl rfl (by rfl)) ?_
 refine vO (O.and_ rfl rfl rfl (s0r 5 (by decide) (by decide) (m:=32) (by decide) (by omega))) ?_
 refine zc (zJ (zn (zD (zr ?_))))
 refine zb ?_
 refine zb ?_
 refine vO (O.shl rfl rfl rfl (by omega) (l0l (n:=32-n) (by omega) (by omega))) ?_
 refine zb ?_
 refine zb ?_
 refine vO (O.sub rfl rfl rfl (by exact q0g (by omega))) ?_
 refine vO (O.shr rfl rfl rfl (by omega) (h0f (n:=n) (by omega) (by omega))) ?_
 refine vO (O.or_ rfl rfl rfl w0g) ?_
 refine zc (zJ (zn (xj ?_)))
 refine vz rfl rfl nS (⟨by rw[hr],rfl⟩)
theorem d0X (x:UInt32)(n:Nat)(hn:0<n∧n<32):Sp Tryz.prog 205 [.val (e32 x),.val (.int .i64 (n:Int))] [] (Is (.val (e32 (rr x (UInt32.ofNat n))))):=by
 refine yX Tryz.func205 _ Tryz.ntmps205 (fun w0 R0=> ?_)
 refine zD (zr ?_)
 refine zc (zJ (zn (zD (zr ?_))))
 refine zb ?_
 refine zb ?_
 refine vO (O.neg rfl rfl (by exact e0J (by omega))) ?_
 refine vO (xM rfl Tryz.func211 rfl rfl rfl (q0x x n hn)) ?_
 refine zc (zJ (zn (xj ?_)))
 refine yM
def kk512:List UInt64:= [0x428a2f98d728ae22,0x7137449123ef65cd,0xb5c0fbcfec4d3b2f,0xe9b5dba58189dbbc,0x3956c25bf348b538,0x59f111f1b605d019,0x923f82a4af194f9b,0xab1c5ed5da6d8118,
 0xd807aa98a3030242,0x12835b0145706fbe,0x243185be4ee4b28c,0x550c7dc3d5ffb4e2,0x72be5d74f27b896f,0x80deb1fe3b1696b1,0x9bdc06a725c71235,0xc19bf174cf692694,
 0xe49b69c19ef14ad2,0xefbe4786384f25e3,0x0fc19dc68b8cd5b5,0x240ca1cc77ac9c65,0x2de92c6f592b0275,0x4a7484aa6ea6e483,0x5cb0a9dcbd41fbd4,0x76f988da831153b5,
 0x983e5152ee66dfab,0xa831c66d2db43210,0xb00327c898fb213f,0xbf597fc7beef0ee4,0xc6e00bf33da88fc2,0xd5a79147930aa725,0x06ca6351e003826f,0x142929670a0e6e70,
 0x27b70a8546d22ffc,0x2e1b21385c26c926,0x4d2c6dfc5ac42aed,0x53380d139d95b3df,0x650a73548baf63de,0x766a0abb3c77b2a8,0x81c2c92e47edaee6,0x92722c851482353b,
 0xa2bfe8a14cf10364,0xa81a664bbc423001,0xc24b8b70d0f89791,0xc76c51a30654be30,0xd192e819d6ef5218,0xd69906245565a910,0xf40e35855771202a,0x106aa07032bbd1b8,
 0x19a4c116b8d2d0c8,0x1e376c085141ab53,0x2748774cdf8eeb99,0x34b0bcb5e19b48a8,0x391c0cb3c5c95a63,0x4ed8aa4ae3418acb,0x5b9cca4f7763e373,0x682e6ff3d6b2b8a3,
 0x748f82ee5defb2fc,0x78a5636f43172f60,0x84c87814a1f0ab72,0x8cc702081a6439ec,0x90befffa23631e28,0xa4506cebde82bde9,0xbef9a3f7b2c67915,0xc67178f2e372532b,
 0xca273eceea26619c,0xd186b8c721c0c207,0xeada7dd6cde0eb1e,0xf57d4f7fee6ed178,0x06f067aa72176fba,0x0a637dc5a2c898a6,0x113f9804bef90dae,0x1b710b35131c471b,
 0x28db77f523047d84,0x32caab7b40c72493,0x3c9ebe0a15c9bebc,0x431d67c49c100d4c,0x4cc5d4becb3e42b6,0x597f299cfc657e2a,0x5fcb6fab3ad6faec,0x6c44198c4a475817]
def hh512:List UInt64:= [0x6a09e667f3bcc908,0xbb67ae8584caa73b,0x3c6ef372fe94f82b,0xa54ff53a5f1d36f1,0x510e527fade682d1,0x9b05688c2b3e6c1f,0x1f83d9abfb41bd6b,0x5be0cd19137e2179]
def kkA:List AV:=kk512.map fun a=> .val (e64 a)
theorem t0P:kkA.length=80:=rfl
instance :TyB Tryz.prog 226 ((List.range 80).map fun i=>(i*1,1)) (.agg ⟨List.replicate 80 (.int .u64 0)⟩):=⟨_,Tryz.type226,by kernel_rfl,.inr ⟨80,88,_,Tryz.underlying226,Tryz.type88,by kernel_rfl⟩⟩
theorem j0E:Sp Tryz.prog 204 [] [] (Is (.agg kkA)):=by
 refine yX Tryz.func204 _ Tryz.ntmps204 (fun w0 R0=> ?_)
 refine zD (zr ?_)
 refine zd ?_
 intro B1
 refine zJ (zn (zD (zr ?_)))
 refine zP ?_
 refine za 0 (zJ (zn (xj ?_)))
 refine AQ.retCell rfl rfl (by repeat(exact List.Mem.head _)) (by rfl) rfl nS (⟨rfl,rfl⟩)
theorem m0S:Sp Tryz.prog 192 [] [] (Is (.agg (hh512.map fun a=> .val (e64 a)))):=by
 refine yX Tryz.func192 _ Tryz.ntmps192 (fun w0 R0=> ?_)
 refine zD (zr ?_)
 refine zd ?_
 intro B1
 refine zJ (zn (zD (zr ?_)))
 refine zP ?_
 refine za 0 (zJ (zn (xj ?_)))
 refine AQ.retCell rfl rfl (by repeat(exact List.Mem.head _)) (by rfl) rfl nS (⟨rfl,rfl⟩)
theorem t0Q {k:Nat}(h:k<80){j:Nat}(hj:j=k):kkA[j]? =some (.val (e64 (kk512.getD k 0))):=by
 subst hj
 have hl:kk512.length=80:=rfl
 simp[kkA,List.getD,show j<kk512.length by omega]
theorem w0M {t:Nat}(h:t<64):IntKind.u32.wrap (((kk512.getD t 0).toNat:Int)/4294967296)=((k256.getD t 0).toNat:Int):=by
 have key: ∀t,t<64→(kk512.getD t 0).toNat/4294967296=(k256.getD t 0).toNat:=by decide +kernel
 have:=key t h
 have h2:=(k256.getD t 0).toNat_lt
 rw[d0C]
 omega
theorem h0I (b:List UInt8)(t:Nat):(q0c b t).length=64:=k0V _ _
def h8 (s:H8)(q:Nat):UInt32:=match q with|0=>s.a|1=>s.b|2=>s.c|3=>s.d|4=>s.e|5=>s.f|6=>s.g|_=>s.h
def m0L (s r:H8)(i q:Nat):UInt32:=if q<i then h8 s q+h8 r q else h8 s q
theorem r0b (s r:H8)(i q:Nat):(if q=i then m0L s r i i+h8 r i else m0L s r i q)=m0L s r (i+1) q:=by
 unfold m0L
 by_cases h:q=i
 ·subst h;rw[if_pos rfl,if_neg (by omega),if_pos (by omega)]
 rw[if_neg h]
 by_cases h2:q<i
 ·rw[if_pos h2,if_pos (by omega)]
 rw[if_neg h2,if_neg (by omega)]
theorem r0c (s r:H8):arK e32 8 (m0L s r 8)=c8 (x0b s r):=rfl
theorem s0q (r:H8){k:Nat}(h:k<8){j:Nat}(hj:j=k):(c8 r)[j]? =some (.val (e32 (h8 r k))):=by
 subst hj
 have hc:j=0∨j=1∨j=2∨j=3∨j=4∨j=5∨j=6∨j=7:=by omega
 rcases hc with rfl|rfl|rfl|rfl|rfl|rfl|rfl|rfl<;>rfl
theorem o0X (s r:H8):arK e32 8 (m0L s r 0)=c8 s:=rfl
set_option maxHeartbeats 8000000 in
theorem k0S (s:H8)(b:List UInt8)(hb:b.length=64):Sp Tryz.prog 194 [.agg (c8 s),roB b] [] (Is (.agg (c8 (m0e s b)))):=by
 refine yX Tryz.func194 _ Tryz.ntmps194 (fun w0 R0=> ?_)
 refine zD (zr ?_)
 refine yo ?_
 intro B1
 refine zd ?_
 intro B2
 refine zJ (zn (zD (zr ?_)))
 refine vO (xM rfl Tryz.func204 rfl rfl rfl j0E) ?_
 refine zd ?_
 intro B3
 refine y0 0 (zJ (zn (zD (zr ?_))))
 refine zd ?_
 intro B4
 refine zJ (zn (zD (zD (zr ?_))))
 refine zb (zJ (zn (xo ?_)))
 have hsp: ∀xs:List AV,xs.length=80→a0e xs 0 kkA=kkA:=fun xs h=>g0b (by rw[h,t0P])
 rw[hsp _ rfl]
 refine zi [(1,_),(2,_),(4,_),(5,_),(6,_)] (fun nn E H=> ∃(t:Nat),(t≤64)∧nn=64-t∧E= [(18,.val (.int .i64 (t:Int)))]∧H= [.blk B4 228 64 (q0c b t),.blk B3 226 80 kkA,.blk B2 207 8 [.val (e32 0),.val (e32 0),.val (e32 0),.val (e32 0),.val (e32 0),.val (e32 0),.val (e32 0),.val (e32 0)],.blk B1 207 8 (c8 s)]) _ (⟨0,by omega,rfl,rfl,rfl⟩) ?_
 rintro nn E H ⟨t,ht,rfl,rfl,rfl⟩
 dsimp only[cA,cN]
 refine zD (zr ?_)
 refine zT (zJ (zn (zD ?_)))
 refine yt (fun hlt=> ?_) (fun hlt=> ?_)<;>(try simp only[vT]at hlt)
 ·refine y6 (zn (zD (xo (zD (zr ?_)))))
  refine zb ?_
  refine zc (zJ (zn (zD (zD (zr ?_)))))
  refine zb ?_
  refine zT (zJ (zn ?_))
  refine yt (fun h16=> ?_) (fun h16=> ?_)<;>(try simp only[vT]at h16)
  ·have hwv:m0m b t=if t<16 then m0m b t else m0K (wTo b t) t:=(if_pos (by omega)).symm
   refine zD ?_
   refine yA 35 ?_
   simp only[cT,cZ,cD,cO]
   refine zH ?_
   refine zH ?_
   refine zH ?_
   refine xv ?_
   refine xr ?_
   refine vP (O.loadR rfl rfl (by exact b0l (k:=4*t) (by omega) (by omega))) ?_
   refine vP (O.conv rfl rfl e0C) ?_
   refine vP (O.shl rfl rfl rfl (by omega) (l0l (n:=24) rfl (by decide))) ?_
   refine zH ?_
   refine zH ?_
   refine xv ?_
   refine xm ?_
   refine xr ?_
   refine vP (O.loadR rfl rfl (by exact b0l (k:=4*t+1) (by omega) (by omega))) ?_
   refine vP (O.conv rfl rfl e0C) ?_
   refine vP (O.shl rfl rfl rfl (by omega) (l0l (n:=16) rfl (by decide))) ?_
   refine vP (O.or_ rfl rfl rfl w0g) ?_
   refine zH ?_
   refine zH ?_
   refine xv ?_
   refine xm ?_
   refine xr ?_
   refine vP (O.loadR rfl rfl (by exact b0l (k:=4*t+2) (by omega) (by omega))) ?_
   refine vP (O.conv rfl rfl e0C) ?_
   refine vP (O.shl rfl rfl rfl (by omega) (l0l (n:=8) rfl (by decide))) ?_
   refine vP (O.or_ rfl rfl rfl w0g) ?_
   refine zH ?_
   refine zH ?_
   refine xv ?_
   refine xm ?_
   refine xr ?_
   refine vP (O.loadR rfl rfl (by exact b0l (k:=4*t+3) (by omega) (by omega))) ?_
   refine vP (O.conv rfl rfl e0C) ?_
   refine vP (O.or_ rfl rfl rfl w0g) ?_
   refine yY ?_
   refine vb ?_
   simp only[a0h,cN,cA,cP]
   refine AO.store (i:=0) rfl rfl rfl rfl rfl rfl (by rfl) (by rfl) (Nat.ble_eq_true_of_le (by rw[h0I];omega)) (by exact l0b b (by omega) hwv (by omega)) (by(dsimp only[List.set,List.append,cA,cN,AV.cells,a0e,List.take,List.drop,Nat.reduceAdd];done)) (zJ (zn ?_))
   refine wj ?_
   refine x8 ?_
   refine xD (zn (zr ?_))
   refine zB ?_
   refine zb (zJ ?_)
   refine zu _ _ _ (by omega) (⟨t+1,by omega,rfl,rfl,rfl⟩)
  have hwv:m0K (wTo b t) t=if t<16 then m0m b t else m0K (wTo b t) t:=(if_neg (by omega)).symm
  refine y6 (zn (zD ?_))
  refine yA 10 ?_
  simp only[cT,cZ,cD,cO]
  refine zH ?_
  refine xX ?_
  refine yY ?_
  refine vP (O.load rfl rfl (by repeat(exact List.Mem.head _)) (by exact e0l b t (k:=t-15) (by omega) (by omega))) ?_
  refine zH ?_
  refine xX ?_
  refine yY ?_
  refine vP (O.load rfl rfl (by repeat(exact List.Mem.head _)) (by exact e0l b t (k:=t-2) (by omega) (by omega))) ?_
  refine vB ?_
  refine vB ?_
  refine vb ?_
  simp only[a0h,cN,cA,cP]
  refine zJ (zn ?_)
  refine yA 29 ?_
  simp only[cT,cZ,cD,cO]
  refine zH ?_
  refine zH ?_
  refine vP (xM rfl Tryz.func205 rfl rfl rfl (d0X _ 17 ⟨by decide,by decide⟩)) ?_
  refine zH ?_
  refine vP (xM rfl Tryz.func205 rfl rfl rfl (d0X _ 19 ⟨by decide,by decide⟩)) ?_
  refine vG ?_
  refine zH ?_
  refine vP (O.shr rfl rfl rfl (by omega) (h0f (n:=10) rfl (by decide))) ?_
  refine vG ?_
  refine zH ?_
  refine xX ?_
  refine yY ?_
  refine vP (O.load rfl rfl (by repeat(exact List.Mem.head _)) (by exact e0l b t (k:=t-7) (by omega) (by omega))) ?_
  refine vP (O.add rfl rfl rfl g0R) ?_
  refine zH ?_
  refine vP (xM rfl Tryz.func205 rfl rfl rfl (d0X _ 7 ⟨by decide,by decide⟩)) ?_
  refine zH ?_
  refine vP (xM rfl Tryz.func205 rfl rfl rfl (d0X _ 18 ⟨by decide,by decide⟩)) ?_
  refine vG ?_
  refine zH ?_
  refine vP (O.shr rfl rfl rfl (by omega) (h0f (n:=3) rfl (by decide))) ?_
  refine vG ?_
  refine vP (O.add rfl rfl rfl g0R) ?_
  refine zH ?_
  refine xX ?_
  refine yY ?_
  refine vP (O.load rfl rfl (by repeat(exact List.Mem.head _)) (by exact e0l b t (k:=t-16) (by omega) (by omega))) ?_
  refine vP (O.add rfl rfl rfl g0R) ?_
  refine yY ?_
  refine vb ?_
  simp only[a0h,cN,cA,cP]
  refine AO.store (i:=0) rfl rfl rfl rfl rfl rfl (by rfl) (by rfl) (Nat.ble_eq_true_of_le (by rw[h0I];omega)) (by exact l0b b (by omega) hwv (by omega)) (by(dsimp only[List.set,List.append,cA,cN,AV.cells,a0e,List.take,List.drop,Nat.reduceAdd];done)) (zJ (xE (zn (zr ?_))))
  refine zB ?_
  refine zb (zJ ?_)
  refine zu _ _ _ (by omega) (⟨t+1,by omega,rfl,rfl,rfl⟩)
 obtain rfl:t=64:=by omega
 refine wj ?_
 refine x8 ?_
 refine wd ?_
 refine xD (zn (zD (zr ?_)))
 refine vO (O.loadK rfl rfl mM (by(dsimp only[List.set,List.append,cA,cN,AV.cells,a0e,List.take,List.drop,Nat.reduceAdd];done)) (by rfl)) ?_
 refine zd ?_
 intro B5
 refine y0 0 (zJ (zn (zD (zD (zr ?_)))))
 refine zb (zJ (zn (xo ?_)))
 refine zi [(2,_),(4,_),(5,_),(6,_),(10,_)] (fun nn E H=> ∃(t:Nat),(t≤64)∧nn=64-t∧E= [(97,.val (.int .i64 (t:Int)))]∧H= [.blk B5 207 8 (c8 (t0a (wTo b 64) s t)),.blk B4 228 64 (q0c b 64),.blk B3 226 80 kkA,.blk B2 207 8 [.val (e32 0),.val (e32 0),.val (e32 0),.val (e32 0),.val (e32 0),.val (e32 0),.val (e32 0),.val (e32 0)],.blk B1 207 8 (c8 s)]) _ (⟨0,by omega,rfl,rfl,rfl⟩) ?_
 rintro nn E H ⟨t,ht,rfl,rfl,rfl⟩
 dsimp only[cA,cN]
 refine zD (zr ?_)
 refine zT (zJ (zn (zD ?_)))
 refine yt (fun hlt=> ?_) (fun hlt=> ?_)<;>(try simp only[vT]at hlt)
 ·have hkt:=w0M (t:=t) (by omega)
  have hrd:=o0e (wTo b 64) s t
  have hk1: ∀j,j=t→kkA[j]? =some (.val (e64 (kk512.getD t 0))):=fun j hj=>t0Q (by omega) hj
  have hw1: ∀j,j=t→(q0c b 64)[j]? =some (.val (e32 ((wTo b 64).getD t 0))):=fun j hj=>e0l b 64 (by omega) hj
  have hwl:=h0I b 64
  generalize(wTo b 64).getD t 0=wt at*
  generalize t0a (wTo b 64) s t=q at*
  generalize q0c b 64=WA at*
  generalize kkA=KA at*
  generalize kk512.getD t 0=kt at*
  generalize k256.getD t 0=kc at*
  refine y6 (zn (zD (xo (zD (zr ?_)))))
  refine zb ?_
  refine zc (zJ (zn (zD ?_)))
  refine yA 6 ?_
  simp only[cT,cZ,cD,cO]
  refine yY ?_
  refine yU ?_
  refine yY ?_
  refine yU ?_
  refine vB ?_
  refine vB ?_
  refine vb ?_
  simp only[a0h,cN,cA,cP]
  refine zJ (zn (zD ?_))
  refine yA 33 ?_
  simp only[cT,cZ,cD,cO]
  refine yY ?_
  refine yU ?_
  refine zH ?_
  refine vP (xM rfl Tryz.func205 rfl rfl rfl (d0X _ 6 ⟨by decide,by decide⟩)) ?_
  refine zH ?_
  refine vP (xM rfl Tryz.func205 rfl rfl rfl (d0X _ 11 ⟨by decide,by decide⟩)) ?_
  refine vG ?_
  refine zH ?_
  refine vP (xM rfl Tryz.func205 rfl rfl rfl (d0X _ 25 ⟨by decide,by decide⟩)) ?_
  refine vG ?_
  refine vP (O.add rfl rfl rfl g0R) ?_
  refine zH ?_
  refine yY ?_
  refine yU ?_
  refine vP (O.and_ rfl rfl rfl p0N) ?_
  refine zH ?_
  refine vP (O.com32 rfl rfl) ?_
  refine yY ?_
  refine yU ?_
  refine vP (O.and_ rfl rfl rfl p0N) ?_
  refine vG ?_
  refine vP (O.add rfl rfl rfl g0R) ?_
  refine zH ?_
  refine yY ?_
  refine vP (O.load rfl rfl mM (by exact hk1 _ (by omega))) ?_
  refine vP (wC 32 4294967296) ?_
  refine vP (O.conv rfl rfl hkt) ?_
  refine vP (O.add rfl rfl rfl g0R) ?_
  refine zH ?_
  refine yY ?_
  refine vP (O.load rfl rfl mM (by exact hw1 _ (by omega))) ?_
  refine vP (O.add rfl rfl rfl g0R) ?_
  refine vB ?_
  refine vb ?_
  simp only[a0h,cN,cA,cP]
  refine zJ (zn (zD ?_))
  refine yA 25 ?_
  simp only[cT,cZ,cD,cO]
  refine zH ?_
  refine vP (xM rfl Tryz.func205 rfl rfl rfl (d0X _ 2 ⟨by decide,by decide⟩)) ?_
  refine zH ?_
  refine vP (xM rfl Tryz.func205 rfl rfl rfl (d0X _ 13 ⟨by decide,by decide⟩)) ?_
  refine vG ?_
  refine zH ?_
  refine vP (xM rfl Tryz.func205 rfl rfl rfl (d0X _ 22 ⟨by decide,by decide⟩)) ?_
  refine vG ?_
  refine zH ?_
  refine yY ?_
  refine yU ?_
  refine vP (O.and_ rfl rfl rfl p0N) ?_
  refine zH ?_
  refine yY ?_
  refine yU ?_
  refine vP (O.and_ rfl rfl rfl p0N) ?_
  refine vG ?_
  refine yY ?_
  refine yU ?_
  refine yY ?_
  refine yU ?_
  refine vP (O.and_ rfl rfl rfl p0N) ?_
  refine vG ?_
  refine vP (O.add rfl rfl rfl g0R) ?_
  refine vB ?_
  refine vb ?_
  simp only[a0h,cN,cA,cP]
  refine zJ (zn (zr ?_))
  refine zb ?_
  refine zb ?_
  refine vO (O.add rfl rfl rfl g0R) ?_
  refine zb ?_
  refine wM ?_
  refine zv ?_
  refine wM ?_
  refine zv ?_
  refine wM ?_
  refine zv ?_
  refine zb ?_
  refine vO (O.add rfl rfl rfl g0R) ?_
  refine zb ?_
  refine wM ?_
  refine zv ?_
  refine wM ?_
  refine zv ?_
  refine zP ?_
  refine y0 0 (zJ (xE (zn (zr ?_))))
  refine zB ?_
  refine zb (zJ ?_)
  refine zu _ _ _ (by omega) (⟨t+1,by omega,rfl,rfl,by rw[hrd]⟩)
 obtain rfl:t=64:=by omega
 generalize hr:t0a (wTo b 64) s 64=r at*
 have hbr:m0e s b=x0b s r:=by rw[←hr];rfl
 generalize q0c b 64=WA at*
 generalize kkA=KA at*
 rw[←o0X s r]
 refine wj ?_
 refine x8 ?_
 refine wd ?_
 refine xD (zn (zD (zD (zr ?_))))
 refine zb (zJ (zn (xo ?_)))
 refine zi [(2,_),(4,_),(10,_)] (fun nn E H=> ∃(i:Nat),(i≤8)∧nn=8-i∧E= [(179,.val (.int .i64 (i:Int)))]∧H= [.blk B5 207 8 (c8 r),.blk B4 228 64 WA,.blk B3 226 80 KA,.blk B2 207 8 [.val (e32 0),.val (e32 0),.val (e32 0),.val (e32 0),.val (e32 0),.val (e32 0),.val (e32 0),.val (e32 0)],.blk B1 207 8 (arK e32 8 (m0L s r i))]) _ (⟨0,by omega,rfl,rfl,rfl⟩) ?_
 rintro nn E H ⟨i,hi,rfl,rfl,rfl⟩
 dsimp only[cA,cN]
 refine zD (zr ?_)
 refine zT (zJ (zn (zD ?_)))
 refine yt (fun hlt=> ?_) (fun hlt=> ?_)<;>(try simp only[vT]at hlt)
 ·have hg1: ∀j,j=i→(arK e32 8 (m0L s r i))[j]? =some (.val (e32 (m0L s r i i))):=fun j hj=>p0L (by omega) hj
  have hg2: ∀j,j=i→(c8 r)[j]? =some (.val (e32 (h8 r i))):=fun j hj=>s0q r (by omega) hj
  have hs1: ∀j,j=i→a0e (arK e32 8 (m0L s r i)) j [.val (e32 (m0L s r i i+h8 r i))]=arK e32 8 (m0L s r (i+1)):=fun j hj=>by
   rw[k0U (by omega:i<8) _ hj]
   exact g0O fun q _=>r0b s r i q
  have hln:(arK e32 8 (m0L s r i)).length=8:=k0V _ _
  refine y6 (zn (zD (xo (zD (zr ?_)))))
  refine zb ?_
  refine zc (zJ (zn ?_))
  refine yA 8 ?_
  simp only[cT,cZ,cD,cO]
  refine zH ?_
  refine yY ?_
  refine vP (O.load rfl rfl mM (by exact hg1 _ (by omega))) ?_
  refine zH ?_
  refine yY ?_
  refine vP (O.load rfl rfl (by repeat(exact List.Mem.head _)) (by exact hg2 _ (by omega))) ?_
  refine vP (O.add rfl rfl rfl g0R) ?_
  refine yY ?_
  refine vb ?_
  simp only[a0h,cN,cA,cP]
  refine AO.store (i:=4) rfl rfl rfl rfl rfl rfl (by rfl) (by rfl) (by exact Nat.ble_eq_true_of_le (by rw[hln];omega)) (by exact hs1 _ (by omega)) (by(dsimp only[List.set,List.append,cA,cN,AV.cells,a0e,List.take,List.drop,Nat.reduceAdd];done)) (zJ (xE (zn (zr ?_))))
  refine zB ?_
  refine zb (zJ ?_)
  refine zu _ _ _ (by omega) (⟨i+1,by omega,rfl,rfl,rfl⟩)
 obtain rfl:i=8:=by omega
 rw[r0c]
 refine wj ?_
 refine x8 ?_
 refine wd ?_
 refine xD (zn (zD (zr ?_)))
 refine vO (O.loadK rfl rfl mM (by(dsimp only[List.set,List.append,cA,cN,AV.cells,a0e,List.take,List.drop,Nat.reduceAdd];done)) (by rfl)) ?_
 refine y0 3 (zJ (zn (xj ?_)))
 refine AQ.retCell rfl rfl mM (by rfl) rfl nS (⟨congrArg (fun x=>AV.agg (c8 x)) hbr.symm,rfl⟩)
end Go.Proofs.YtojomcdjcpmnkaaGreat.By
namespace Go.Proofs.YtojomcdjcpmnkaaGreat.A
open Go.RowKit L
section
variable {Γ:Cx}{P:Program}{E:Env}{H:List HE}{N:Nat}{o:Oper}
theorem RelV.plain {R R':Nat→Prop}{W W':World}{x:AV}{u:Value}(hx: ∃c,x= .val c)(h:RelV R W x u):RelV R' W' x u:=by
 obtain⟨c,rfl⟩:=hx
 rw[h.val_inv];exact .val _
theorem RelV.plainT {R R':Nat→Prop}{W W':World}{xs:List AV}{u:Value}(hx: ∀x∈xs,∃c,x=AV.val c)(h:RelV R W (.tup xs) u):RelV R' W' (.tup xs) u:=by
 cases h with
 |tup _ cs hs hc=>exact .tup xs cs hs fun j hj=>(hc j hj).plain (hx _ (List.getElem_mem hj))
theorem HE.plainRow {R R':Nat→Prop}{W:World}{v:Value}{T sz n:Nat}{xs:List AV}(hx: ∀x∈xs,∃c,x=AV.val c)(h:HE.ok R W (.row v T sz n xs)):HE.ok R' W (.row v T sz n xs):=by
 obtain⟨us,ho,hl,hr⟩:=h
 exact⟨us,ho,hl,fun j hj=>(hr j hj).plain (hx _ (List.getElem_mem hj))⟩
theorem l0c (n:Nat)(f:Nat→UInt8): ∀x∈arB n f,∃c,x=AV.val c:=fun x hx=>by
 rw[d0i]at hx
 obtain⟨q,_,rfl⟩:=List.mem_map.1 hx
 exact⟨_,rfl⟩
def p0Y (Post:AV→List HE→Prop):Prop:= ∀r Hn,Post r Hn→(∀(R R':Nat→Prop) W u,RelV R W r u→RelV R' W r u)∧ ∀e∈Hn,∀(R R':Nat→Prop) W,HE.ok R W e→HE.ok R' W e
theorem O.callLP {f:FuncId}{xs:List Operand}{ats:Array TypeId}{args args':List AV}{v:Value}{T sz n:Nat}{rs:List AV}{fn:Func}{Post:AV→List HE→Prop}(ho:o.op= .call {callee:= .value (.func f),args:=xs.toArray,argTypes:=ats})(hfn:P.funcs[f]? =some fn)(hn:(fn.name== "runtime.NumGoroutine")=false)(hb:fn.body.isNone=false)
  (hx:evs E xs=some args) (hm:HE.row v T sz n rs∈H) (h:Sp P f args' [] Post) (hp:p0Y Post) (hl:LendL v (.ro false n rs) args args'):OpW P N o E H Post:=fun R a W h0 h2 h3 ha=>by
 have hR: ∀b,R b→R b∨(HE.row v T sz n rs).foot b:=fun _ h=> .inl h
 have hlt: ∀b,R b∨(HE.row v T sz n rs).foot b→b<W.heap.size:=by
  rintro b (hb|hb)
  ·exact h0 b hb
  ·exact HE.ok_lt (h2 _ hm) hb
 unfold Oper.wp
 rw[b0P ho hfn hn hb,List.map_toArray]
 have hc:=h W _ (xs.map a.eval) hlt (fun e he=>by cases he) .nil (hl.rel hR (l0s (h2 _ hm)) (ha.evs hx))
 refine Calls.mono hc ?_
 rintro e W' ⟨u,r,H',R',rfl,hpo,hs,hv⟩
 have p:=e0y hs hv hlt
 obtain⟨q1,q2⟩:=hp r H' hpo
 refine⟨u,r,H',R,rfl,hpo,p.ext,fun _ h=>h,fun _ h=> .inl h,q1 _ _ _ _ hv,fun e he=>⟨q2 e he _ _ _ (p.ok e he).1,fun b hb=> ?_⟩,p.disj⟩
 have:=(p.ok e he).2 b hb
 exact⟨this.1,fun hr=>by have:=h0 b hr;omega⟩
inductive LendX (H:List HE):List AV→List AV→Prop
 |nil:LendX H [] []
 |same {a:AV} {r r':List AV}:LendX H r r'→LendX H (a::r) (a::r')
 |row {v:Value} {T sz n:Nat} {rs r r':List AV} (i:Nat) (hi:H[i]? =some (.row v T sz n rs)):LendX H r r'→LendX H (.val v::r) (.ro false n rs::r')
 |agg {xs xs' r r':List AV}:LendX H xs xs'→LendX H r r'→LendX H (.agg xs::r) (.agg xs'::r')
theorem LendX.rel {R:Nat→Prop}{W:World}(hok: ∀e∈H,e.ok R W){a a':List AV}(h:LendX H a a'): ∀{us:List Value},RelL R W a us→RelL (fun b=>R b∨ ∃e∈H,e.foot b) W a' us:=by
 induction h with
 |nil=>intro us h;exact h.mono (fun _ h=> .inl h) (fun _ _=>rfl)
 |same _ ih=>
  intro us h
  obtain⟨u,r,rfl,h1,h2⟩:=h.uncons
  exact RelL.cons (h1.mono (fun _ h=> .inl h) (fun _ _=>rfl)) (ih h2)
 |row i hi _ ih=>
  intro us h
  obtain⟨u,r,rfl,h1,h2⟩:=h.uncons
  have:=h1.val_inv
  subst this
  have hm:=List.mem_of_getElem? hi
  exact RelL.cons ((l0s (hok _ hm)).mono (fun b hb=>hb.elim .inl fun hf=> .inr ⟨_,hm,hf⟩) (fun _ _=>rfl)) (ih h2)
 |agg _ _ ih1 ih2=>
  intro us h
  obtain⟨u,r,rfl,h1,h2⟩:=h.uncons
  obtain⟨vs,rfl,hv⟩:=h1.agg_inv
  exact RelL.cons (ih1 hv).toAgg (ih2 h2)
theorem AO.callMGw {Q:Exit→Act→World→Prop}{ops:Array Oper}{rest:List Oper}{f:FuncId}{d:Nat}{xs:List Operand}{ats:Array TypeId}{args:List AV}(i:Nat){e:HE}{Post:AV→List HE→Prop}{fn:Func}(ho:o.op= .call {callee:= .value (.func f),args:=xs.toArray,argTypes:=ats})(hw:a0f ops E o=some true)(hfn:P.funcs[f]? =some fn)(hn:(fn.name== "runtime.NumGoroutine")=false)(hb:fn.body.isNone=false)
  (hx:evs E xs=some args) (hd:o.dst=some d) (hN:Nat.ble (d+1) Γ.N=true) (hi:H[i]? =some e) (h:Sp P f args [e] Post) (next: ∀r H',Post r H'→AO Γ P ops Q rest ((d,r)::E) (H'++H.eraseIdx i)):AO Γ P ops Q (o::rest) E H:=fun R a W hs ha=>by
 have h1:=AO.callMG (o:={o with guard:=none}) i ho rfl hfn hn hb hx hd hN hi h next R a W hs ha
 unfold wpList at h1⊢
 rw[if_pos (f0V ha hw)]
 rw[if_pos (by unfold Region.wanted;rfl)]at h1
 exact h1
end
def GK (g:Nat)(vs:List Value)(W:World):Prop:= ∃cs T,W.heap[g]? =some (.cells cs T (0,0))∧cs.toList=vs
theorem GK.lt {g:Nat}{vs:List Value}{W:World}(h:GK g vs W):g<W.heap.size:=by
 obtain⟨cs,T,h,_⟩:=h
 exact(Array.getElem?_eq_some_iff.1 h).1
theorem GK.mods {g:Nat}{vs:List Value}{S:Nat→Prop}{W W':World}(h:GK g vs W)(hm:Mods S W W')(hS: ¬S g):GK g vs W':=by
 have hl:=h.lt
 obtain⟨cs,T,h1,h2⟩:=h
 exact⟨cs,T,by rw[hm.block g hl hS];exact h1,h2⟩
def SpK (K:World→Prop)(P:Program)(f:FuncId)(args:List AV)(H0:List HE)(Post:AV→List HE→Prop):Prop:=
 ∀(W:World) (R:Nat→Prop) (us:List Value),K W→(∀b,R b→b<W.heap.size)→(∀e∈H0,e.ok R W∧ ∀b,e.foot b→ ¬R b)→H0.Pairwise Disj→RelL R W args us→
  Calls P f us.toArray W fun e W'=> ∃u r H' R',e= .returned u∧Post r H'∧RelS ⟨W,a0E H0,R,0⟩ R' H' W'∧RelV R' W' r u
theorem SpK.of {K:World→Prop}{P:Program}{f:FuncId}{args:List AV}{H0:List HE}{Post:AV→List HE→Prop}(h:Sp P f args H0 Post):SpK K P f args H0 Post:=fun W R us _ h1 h2 h3 h4=>h W R us h1 h2 h3 h4
theorem SpK.coe {K:World→Prop}{P:Program}{f:FuncId}{args args':List AV}{H0:List HE}{Post:AV→List HE→Prop}(h:SpK K P f args' H0 Post)(hc:CoeL args args'):SpK K P f args H0 Post:=fun W R us hK h1 h2 h3 h4=>h W R us hK h1 h2 h3 (hc R W us h4)
theorem SpK.enter {K:World→Prop}{P:Program}{f:FuncId}{args:List AV}{H0:List HE}{Post:AV→List HE→Prop}{fn:Func}{c:Code}(hf:P.funcs[f]? =some fn)(hb:fn.body=some c)(n:Nat)(hn:fn.ntmps=n)(hl:Nat.ble args.length n=true)
  (h: ∀w0 R0,K w0→AW ⟨w0,a0E H0,R0,n⟩ P (FnQ ⟨w0,a0E H0,R0,n⟩ P fn Post) c (j0x 0 args) H0):SpK K P f args H0 Post:=fun W R us hK h1 h2 h3 h4=>by
 refine calls_of_wp hf hb (h W R hK R _ W ⟨Mods.refl _ _,h1,fun _ h=>h,fun _ h=> .inl h,fun e he=>(h2 e he).1,fun e he b hb=>⟨.inr ⟨e,he,hb⟩,(h2 e he).2 b hb⟩,h3⟩ ⟨rfl,?_,?_⟩)
 ·have:=lB hl
  have h5:=h4.1
  simp[hn];omega
 ·intro t v ht
  have key: ∀(args:List AV) (k:Nat),a0r (j0x k args) t=some v→k≤t∧args[t-k]? =some v:=by
   intro args
   induction args with
   |nil=>intro k h;cases h
   | cons x r ih=>
    intro k h
    rw[j0x]at h
    unfold a0r at h
    cases hb:Nat.beq k t with
    |true=>
     rw[hb]at h
     have:=Nat.eq_of_beq_eq_true hb
     subst this
     simp at h⊢;exact h
    |false=>
     rw[hb]at h
     obtain⟨h5,h6⟩:=ih (k+1) h
     have:k≠t:=fun e=>by subst e;simp at hb
     refine⟨by omega,?_⟩
     rw[show t-k=(t-(k+1))+1 by omega]
     simpa using h6
  obtain⟨_,h5⟩:=key args 0 ht
  obtain⟨u,h6,h7⟩:=h4.get (j:=t) (by simpa using h5)
  have ht':t<us.length:=(List.getElem?_eq_some_iff.1 h6).1
  have hu:us[t]=u:=(List.getElem?_eq_some_iff.1 h6).2
  have:Act.eval {tmps:=us.toArray++Array.replicate (fn.ntmps-us.toArray.size) undef,defers:= []} (.tmp t)=u:=by
   simp only[Act.eval,Array.getD]
   rw[dif_pos (by simp;omega)]
   simp[Array.getElem_append,ht',hu]
  rw[this];exact h7
section
variable {Γ:Cx}{P:Program}{Q:Exit→Act→World→Prop}{E:Env}{H:List HE}{N:Nat}{o:Oper}{ops:Array Oper}{rest:List Oper}
theorem O.index1 {T U:Nat}{x y:Operand}{n:Nat}{kk:IntKind}{z:Int}{xs:List AV}{v:AV}[hd:TyD P T (.array n U)][hg:TyG P U false 1](ho:o.op= .index T x y)(hx:ev E x=some (.agg xs))(hy:ev E y=some (.val (.int kk z)))(hz:0≤z∧z<n)(hv:xs[z.toNat]? =some v):
  OpW P N o E H (Is v):= .of_run fun R a W h1 h2 ha=>by
 obtain⟨d,inf,hd1,hi1,hk1,hg1⟩:=hg.ax
 obtain⟨us,hu,hr⟩:=(ha.ev hx).agg_inv
 obtain⟨u,h3,h4⟩:=hr.get hv
 refine⟨u,?_,h4⟩
 simp only[execOp,ho,hu,(ha.ev hy).val_inv,Instr.index,asIntOf,run_underlying hd.ax,Sem.run_bind,Sem.run_pure,Result.andThen_ok,sizeOf,typeInfo,run_program,hi1,hk1]
 rw[if_pos hz]
 cases d<;>first|(cases hg1;done)|(simp[part,isAgg,run_underlying hd1,sizeOf,typeInfo,hi1,hk1,h3])
end
end Go.Proofs.YtojomcdjcpmnkaaGreat.A
namespace Go.Proofs.YtojomcdjcpmnkaaGreat.By
open Go.RowKit L A
attribute [local irreducible] AW AQ AO
theorem b0A (l:List UInt8)(b:UInt8):a0a (l++[b])=a0a l++[.val (.int .u8 (b.toNat:Int))]:=by simp[a0a]
theorem l0G (n:Nat):UInt8.ofNat n=u8 (n:Int):=by
 unfold u8
 exact UInt8.toNat_inj.1 (by simp only[UInt8.toNat_ofNat'];omega)
theorem s0R {n m:Nat}{z:Int}(hz:z=(m:Int))(hm:m<64):((n:Int)).fdiv (2^ (min z.toNat IntKind.u64.bits))=((n/2^m:Nat):Int):=by
 subst hz
 have e:min ((m:Int)).toNat IntKind.u64.bits=m:=by
  show min m 64=m
  omega
 rw[e,Int.fdiv_eq_ediv_of_nonneg _ (by exact Int.le_of_lt (Int.pow_pos (by omega))),show(2:Int)^m=((2^m:Nat):Int) by rw[Int.natCast_pow];rfl,←Int.natCast_ediv]
theorem v0d (b:List UInt8)(hb:b.length≤1000000):Sp Tryz.prog 193 [roB b,.val (.int .i64 64)] [] (Is (roB (q0P b))):=by
 refine yX Tryz.func193 _ Tryz.ntmps193 (fun w0 R0=> ?_)
 refine zD (zr ?_)
 refine zc (zJ (zn (zD (zr ?_))))
 refine zb ?_
 refine yH ?_
 intro V1 hV1
 refine zR ?_
 intro B2
 refine AO.g ?_
 refine yi 0 10 ?_
 refine wm 10 ?_
 refine AO.u ?_
 dsimp only[List.eraseIdx]
 refine yD 0 ?_
 intro V3 hV3
 refine zc (zJ (zn (zD (xo ?_))))
 rw[show a0a b++[.val (.int .u8 128)]=a0a (b++[128])from(b0A b 128).symm,show b.length+1=(b++[128]).length by simp]
 refine zi [(0,_),(1,_)] (fun nn E H=> ∃(k:Nat) (V:Value) (l:List UInt8),(k≤j0c b.length)∧(V.oneCell'=true)∧(l=b++[128]++List.replicate k 0)∧nn=j0c b.length-k∧E= [(5,.val V)]∧H= [.row V 5 1 l.length (a0a l)]) _ (⟨0,_,b++[128],by omega,‹_›,by simp,rfl,rfl,rfl⟩) ?_
 rintro nn E H ⟨k,V,l,hk,hV,hl,rfl,rfl,rfl⟩
 dsimp only[cA,cN]
 have hll:l.length=b.length+1+k:=by rw[hl];simp;omega
 have hpz:=o0F b.length
 refine zD (zD (zr ?_))
 refine zb ?_
 refine wu ?_
 refine zb ?_
 refine wn ?_
 refine zb ?_
 refine zb ?_
 refine wL ?_
 refine yN ?_
 refine y2 (zJ (zn ?_))
 refine yt (fun h1=> ?_) (fun h1=> ?_)<;>(try simp only[vT]at h1)
 ·have hk2:k<j0c b.length:=by
   by_cases g:k<j0c b.length
   ·exact g
   exfalso
   have h3:=q0N b.length
   rw[show j0c b.length=k by omega]at h3
   omega
  have hgu:a0a (l++[0])=a0a l++[.val (.int .u8 0)]:=b0A l 0
  have hgl:(l++[0]).length=l.length+1:=by simp
  refine y6 (zn (xo (zr ?_)))
  refine zb ?_
  refine zR ?_
  intro B4
  refine AO.g ?_
  refine yi 0 22 ?_
  refine wm 22 ?_
  refine AO.u ?_
  dsimp only[List.eraseIdx]
  refine yD 0 ?_
  intro V5 hV5
  refine zc (zJ (xE ?_))
  rw[show a0a l++_=_ from hgu.symm,←hgl]
  refine zu _ _ _ (by omega) (⟨k+1,_,l++[0],by omega,‹_›,by rw[hl,List.replicate_succ',List.append_assoc (b++[128])],rfl,rfl,rfl⟩)
 have hk2:k=j0c b.length:=t0r hk (by omega)
 refine wj ?_
 refine x8 ?_
 refine wd ?_
 refine xD (zn (zD (xo ?_)))
 refine zi [(0,_),(1,_)] (fun nn E H=> ∃(j:Nat) (V:Value),(j=0)∧(V.oneCell'=true)∧j=nn∧E= [(5,.val V)]∧H= [.row V 5 1 l.length (a0a l)]) _ (⟨0,V,rfl,hV,rfl,rfl,rfl⟩) ?_
 rintro nn E H ⟨j,V,hj,hV,rfl,rfl,rfl⟩
 dsimp only[cA,cN]
 refine zD (zD (zr ?_))
 refine zb ?_
 refine wu ?_
 refine zb ?_
 refine wn ?_
 refine zb ?_
 refine yN ?_
 refine vO (O.neq rfl rfl rfl (by exact bne_eq_false_iff_eq.2 (by omega))) (zJ (zn ?_))
 refine yt (fun h2=> ?_) (fun h2=> ?_)<;>(try simp only[vT]at h2)
 ·exact absurd h2 (by simp)
 refine wj ?_
 refine x8 ?_
 refine wd ?_
 refine xD (zn (zD (zr ?_)))
 refine zb ?_
 refine zX ?_
 refine wg ?_
 refine vO (O.mul rfl rfl rfl (by exact q0g (by omega))) ?_
 refine zc (zJ (zn (zD (zD (zr ?_)))))
 refine zc (zJ (zn (xo ?_)))
 refine zi [(6,_)] (fun nn E H=> ∃(k2:Nat) (V:Value) (q:List UInt8),(k2≤8)∧(V.oneCell'=true)∧(q=l++m0O b.length k2)∧(q.length≤l.length+8)∧nn=8-k2∧E= [(5,.val V),(7,.val (.int .i64 (7-(k2:Int))))]∧H= [.row V 5 1 q.length (a0a q)]) _ (⟨0,V,l,by omega,hV,by simp[m0O],by omega,rfl,rfl,rfl⟩) ?_
 rintro nn E H ⟨k2,V,q,hk3,hV,hq,hql,rfl,rfl,rfl⟩
 dsimp only[cA,cN]
 refine zD (zD (zr ?_))
 refine zb ?_
 refine wX (zJ (zn ?_))
 refine yt (fun h3=> ?_) (fun h3=> ?_)<;>(try simp only[vT]at h3)
 ·have hs:=m0N b.length (k:=k2) (by omega)
  rw[l0G]at hs
  have hbn:(b.length:Int)*8=((b.length*8:Nat):Int):=by omega
  rw[hbn]
  refine y6 (zn (zD (xo (zr ?_))))
  refine zb ?_
  refine zb ?_
  refine zb ?_
  refine wg ?_
  refine vO (O.mul rfl rfl rfl (by exact q0g (by omega))) ?_
  refine vO (O.shr rfl rfl rfl (by omega) (s0R (m:=8*(7-k2)) (by omega) (by omega))) ?_
  refine xg ?_
  refine zR ?_
  intro B6
  refine AO.g ?_
  refine yi 0 49 ?_
  refine wm 49 ?_
  refine AO.u ?_
  dsimp only[List.eraseIdx]
  refine yD 0 ?_
  intro V7 hV7
  refine zc (zJ (xE (zn (zr ?_))))
  refine zb ?_
  refine yN ?_
  refine zc (zJ ?_)
  have hgu:=b0A q (u8 ((b.length*8/2^ (8*(7-k2)):Nat):Int))
  have hgl:(q++[u8 ((b.length*8/2^ (8*(7-k2)):Nat):Int)]).length=q.length+1:=by simp
  rw[show a0a q++_=_ from hgu.symm,←hgl,show 7-(k2:Int)-1=7-((k2+1:Nat):Int) by omega]
  refine zu _ _ _ (by omega) (⟨k2+1,_,q++[u8 ((b.length*8/2^ (8*(7-k2)):Nat):Int)],by omega,‹_›,by rw[hq,hs,List.append_assoc],by(have:=congrArg List.length hq;rw[cH,m0O,List.length_take]at this;omega),rfl,rfl,rfl⟩)
 obtain rfl:k2=8:=by omega
 have hqp:q=q0P b:=by rw[hq,hl,hk2,p0b];rfl
 subst hqp
 refine wj ?_
 refine x8 ?_
 refine wd ?_
 refine xD (zn (zD (zr ?_)))
 refine zb ?_
 refine zc (zJ (zn (xj ?_)))
 refine AQ.g ?_
 refine yf 0 [4] ?_
 refine AQ.u ?_
 try dsimp only[List.map,List.eraseIdx,cA,cN]
 refine yM
def hTo (k q:Nat):UInt32:=if q<k then h8 r0o q else 0
theorem r0n (k q:Nat):(if q=k then h8 r0o k else hTo k q)=hTo (k+1) q:=by
 unfold hTo
 by_cases h:q=k
 ·subst h;rw[if_pos rfl,if_pos (by omega)]
 rw[if_neg h]
 by_cases h2:q<k
 ·rw[if_pos h2,if_pos (by omega)]
 rw[if_neg h2,if_neg (by omega)]
theorem t0V:arK e32 8 (hTo 8)=c8 r0o:=rfl
theorem w0O {t:Nat}(h:t<8):IntKind.u32.wrap (((hh512.getD t 0).toNat:Int)/4294967296)=((h8 r0o t).toNat:Int):=by
 have key: ∀t,t<8→(hh512.getD t 0).toNat/4294967296=(h8 r0o t).toNat:=by decide +kernel
 have:=key t h
 have h2:=(h8 r0o t).toNat_lt
 rw[d0C]
 omega
theorem v0B {k:Nat}(h:k<8){j:Nat}(hj:j=k):(hh512.map fun a=>AV.val (e64 a))[j]? =some (.val (e64 (hh512.getD k 0))):=by
 subst hj
 have hl:hh512.length=8:=rfl
 simp[List.getD,show j<hh512.length by omega]
def f0v (s:H8)(k:Nat):List UInt8:=(List.range k).flatMap fun i=>w4 (h8 s i)
theorem h0p (s:H8)(k:Nat):f0v s (k+1)=f0v s k++w4 (h8 s k):=by
 unfold f0v
 rw[List.range_succ,List.flatMap_append];simp
theorem o0H (s:H8):f0v s 8=w0I s:=rfl
theorem e0t (s:H8): ∀k,(f0v s k).length=4*k
 |0=>rfl
 |k+1=>by rw[h0p,cH,e0t s k];show 4*k+4=_;omega
theorem r0U (b:List UInt8)(hb:b.length≤1000000):Sp Tryz.prog 176 [roB b] [] (Is (roB (sha b))):=by
 refine yX Tryz.func176 _ Tryz.ntmps176 (fun w0 R0=> ?_)
 refine zD (zr ?_)
 refine zc (zJ (zn (zD (zr ?_))))
 refine zd ?_
 intro B1
 refine zJ (zn (zD (zD (zr ?_))))
 refine vO (xM rfl Tryz.func192 rfl rfl rfl m0S) ?_
 refine zb (zJ (zn (xo ?_)))
 refine zi [(0,_),(3,_),(11,_)] (fun nn E H=> ∃(k:Nat),(k≤8)∧nn=8-k∧E= [(12,.val (.int .i64 (k:Int)))]∧H= [.blk B1 207 8 (arK e32 8 (hTo k))]) _ (⟨0,by omega,rfl,rfl,rfl⟩) ?_
 rintro nn E H ⟨k,hk,rfl,rfl,rfl⟩
 dsimp only[cA,cN]
 refine zD (zr ?_)
 refine zT (zJ (zn (zD ?_)))
 refine yt (fun hlt=> ?_) (fun hlt=> ?_)<;>(try simp only[vT]at hlt)
 ·have hg1: ∀j,j=k→(hh512.map fun a=>AV.val (e64 a))[j]? =some (.val (e64 (hh512.getD k 0))):=fun j hj=>v0B (by omega) hj
  have hs1: ∀j,j=k→a0e (arK e32 8 (hTo k)) j [.val (e32 (h8 r0o k))]=arK e32 8 (hTo (k+1)):=fun j hj=>by
   rw[k0U (by omega:k<8) _ hj]
   exact g0O fun q _=>r0n k q
  have hln:(arK e32 8 (hTo k)).length=8:=k0V _ _
  have hc:=w0O (t:=k) (by omega)
  generalize hh512.getD k 0=x at*
  generalize h8 r0o k=y at*
  refine y6 (zn (zD (xo (zD (zr ?_)))))
  refine zb ?_
  refine vO (O.index1 rfl rfl rfl ⟨(by omega),(by omega)⟩ (by exact hg1 _ (by omega))) ?_
  refine zc ?_
  refine zc (zJ (zn (zr ?_)))
  refine zb ?_
  refine zb ?_
  refine vO (wC 32 4294967296) ?_
  refine vO (O.conv rfl rfl hc) ?_
  refine wM ?_
  refine AO.store (i:=0) rfl rfl rfl rfl rfl rfl (by rfl) (by rfl) (by exact Nat.ble_eq_true_of_le (by rw[hln];omega)) (by exact hs1 _ (by omega)) (by(dsimp only[List.set,List.append,cA,cN,AV.cells,a0e,List.take,List.drop,Nat.reduceAdd];done)) (zJ (xE (zn (zr ?_))))
  refine zB ?_
  refine zb (zJ ?_)
  refine zu _ _ _ (by omega) (⟨k+1,by omega,rfl,rfl,rfl⟩)
 obtain rfl:k=8:=by omega
 rw[t0V]
 obtain⟨p,hp⟩: ∃p,p=q0P b:=⟨_,rfl⟩
 have hpm:p.length%64=0:=by rw[hp];exact q0O b
 have hpl:p.length≤2000000:=by
  have:=o0F b.length
  rw[hp,q0P]
  simp only[cH,List.length_replicate,List.length_singleton,show(v0u b.length).length=8 from rfl];omega
 obtain⟨m,hm⟩: ∃m,64*m=p.length:=⟨p.length/64,by omega⟩
 refine wj ?_
 refine x8 ?_
 refine wd ?_
 refine xD (zn (zD (zr ?_)))
 refine zb ?_
 refine vO (xM rfl Tryz.func193 rfl rfl rfl (v0d b hb)) ?_
 refine zc (zJ (zn (zD (zD (zr ?_)))))
 refine zc (zJ (zn (xo ?_)))
 rw[←hp]
 refine zi [(3,_),(6,_)] (fun nn E H=> ∃(k:Nat),(k≤m)∧nn=m-k∧E= [(7,.val (.int .i64 ((64*k:Nat):Int)))]∧H= [.blk B1 207 8 (c8 (d0y p k))]) _ (⟨0,by omega,rfl,rfl,rfl⟩) ?_
 rintro nn E H ⟨k,hk,rfl,rfl,rfl⟩
 dsimp only[cA,cN]
 refine zD (zD (zr ?_))
 refine zb ?_
 refine zb ?_
 refine zX ?_
 refine zT (zJ (zn ?_))
 refine yt (fun hlt=> ?_) (fun hlt=> ?_)<;>(try simp only[vT]at hlt)
 ·obtain⟨bk,hbk⟩: ∃bk,bk=(p.drop (64*k)).take 64:=⟨_,rfl⟩
  have hbl:bk.length=64:=by rw[hbk,List.length_take,List.length_drop];omega
  have hpart:((a0a p).drop (64*k*1)).take (bk.length*1)=a0a bk:=by rw[g0L rfl rfl,hbl,hbk]
  have hst:d0y p (k+1)=m0e (d0y p k) bk:=by rw[hbk];rfl
  refine y6 (zn (zD (xo ?_)))
  refine yA 7 ?_
  simp only[cT,cZ,cD,cO]
  refine vP vK ?_
  refine zH ?_
  refine zH ?_
  refine zH ?_
  refine xm ?_
  refine vP (O.sliceLHm (m:=bk.length) rfl rfl rfl rfl (l:=64*k) (h:=64*k+64) (by omega) (by omega) (by omega) (by omega) (by omega) (by exact hpart)) ?_
  refine vP (xM rfl Tryz.func194 rfl rfl rfl (k0S (d0y p k) bk hbl)) ?_
  refine vb ?_
  simp only[a0h,cN,cA,cP]
  refine y0 0 (zJ (xE (zn (zr ?_))))
  refine zb ?_
  refine zB ?_
  refine zc (zJ ?_)
  rw[←hst,show((64*k:Nat):Int)+64=((64*(k+1):Nat):Int) by omega]
  refine zu _ _ _ (by omega) (⟨k+1,by omega,rfl,rfl,rfl⟩)
 obtain rfl:k=m:=by omega
 have hsh:=u0V b hp hm
 generalize d0y p k=hf at*
 refine wj ?_
 refine x8 ?_
 refine wd ?_
 refine xD (zn (zD (zr ?_)))
 refine zc (zJ (zn (zD (zD (zr ?_)))))
 refine vO vK ?_
 refine zb (zJ (zn (xo ?_)))
 refine AW.g ?_
 refine G.nilRow 5 1 ?_
 refine AW.u ?_
 refine zi [(37,_)] (fun nn E H=> ∃(i:Nat) (V:Value),(i≤8)∧(V.oneCell'=true)∧nn=8-i∧E= [(8,.val V),(38,.val (.int .i64 (i:Int)))]∧H= [.row V 5 1 (f0v hf i).length (a0a (f0v hf i))]) _ (⟨0,_,by omega,rfl,rfl,rfl,rfl⟩) ?_
 rintro nn E H ⟨i,V,hi,hV,rfl,rfl,rfl⟩
 dsimp only[cA,cN]
 have hol:=e0t hf i
 refine zD (zr ?_)
 refine zT (zJ (zn (zD ?_)))
 refine yt (fun hlt2=> ?_) (fun hlt2=> ?_)<;>(try simp only[vT]at hlt2)
 ·have hg2: ∀j,j=i→(c8 hf)[j]? =some (.val (e32 (h8 hf i))):=fun j hj=>s0q hf (by omega) hj
  have hgu:a0a (f0v hf i)++[.val (.int .u8 (((h8 hf i)>>>UInt32.ofNat 24).toUInt8.toNat:Int)),.val (.int .u8 (((h8 hf i)>>>UInt32.ofNat 16).toUInt8.toNat:Int)),.val (.int .u8 (((h8 hf i)>>>UInt32.ofNat 8).toUInt8.toNat:Int)),.val (.int .u8 ((h8 hf i).toUInt8.toNat:Int))]=a0a (f0v hf (i+1)):=by
   rw[h0p];simp[a0a,w4]
  have hgl:(f0v hf (i+1)).length=(f0v hf i).length+4:=by rw[e0t,e0t];omega
  refine y6 (zn (zD (xo (zD (zr ?_)))))
  refine vO (O.index1 rfl rfl rfl ⟨(by omega),(by omega)⟩ (by exact hg2 _ (by omega))) ?_
  refine zc (zJ (zn (zr ?_)))
  refine zb ?_
  refine zb ?_
  refine vO (O.shr rfl rfl rfl (by omega) (h0f (n:=24) rfl (by decide))) ?_
  refine vO (O.conv rfl rfl e0D) ?_
  refine zb ?_
  refine vO (O.shr rfl rfl rfl (by omega) (h0f (n:=16) rfl (by decide))) ?_
  refine vO (O.conv rfl rfl e0D) ?_
  refine zb ?_
  refine vO (O.shr rfl rfl rfl (by omega) (h0f (n:=8) rfl (by decide))) ?_
  refine vO (O.conv rfl rfl e0D) ?_
  refine zb ?_
  refine vO (O.conv rfl rfl e0D) ?_
  refine xy ?_
  intro B2
  refine AO.g ?_
  refine yi 0 53 ?_
  refine wm 53 ?_
  refine AO.u ?_
  dsimp only[List.eraseIdx]
  refine AO.append' (i:=0) rfl rfl rfl rfl (by rfl) (by rfl) rfl rfl rfl (by exact SrcA.ro TyD.ax (by rfl) (lB rfl)) (by rfl) (by(unfold maxLen;omega)) (by omega) (by(dsimp only[List.set,List.append,cA,cN,AV.cells,a0e,List.take,List.drop,Nat.reduceAdd];done)) (fun _=>by(dsimp only[List.set];done)) ?_
  intro V3 hV3
  refine zc (zJ (xE (zn (zr ?_))))
  refine zB ?_
  refine zb (zJ ?_)
  rw[show a0a (f0v hf i)++_=_ from hgu,←hgl]
  refine zu _ _ _ (by omega) (⟨i+1,_,by omega,‹_›,rfl,rfl,rfl⟩)
 obtain rfl:i=8:=by omega
 rw[o0H,hsh]
 refine wj ?_
 refine x8 ?_
 refine wd ?_
 refine xD (zn (zD (zr ?_)))
 refine zb ?_
 refine zc (zJ (zn (xj ?_)))
 refine AQ.g ?_
 refine yf 0 [2] ?_
 refine AQ.u ?_
 try dsimp only[List.map,List.eraseIdx,cA,cN]
 refine yM
theorem r0z (l:List UInt8)(hl:l.length≤1000000):Sp Tryz.prog 69 [roB l] [] (b0p 5 1 l.length (a0a l)):=by
 refine yX Tryz.func69 _ Tryz.ntmps69 (fun w0 R0=> ?_)
 refine zD (zr ?_)
 refine zc (zJ (zn (zD (zr ?_))))
 refine zb ?_
 refine yH ?_
 intro V1 hV1
 refine zc (zJ (zn (xj ?_)))
 refine vz rfl rfl ⟨_,by repeat(first|exact List.Sublist.slnil|refine List.Sublist.cons_cons _ ?_),List.Perm.refl _⟩ (⟨_,rfl,‹_›,rfl⟩)
theorem n0c (l:List UInt8)(hl:l.length≤1000000):Sp Tryz.prog 108 [roB l] [] (b0p 5 1 l.length (a0a l)):=by
 refine yX Tryz.func108 _ Tryz.ntmps108 (fun w0 R0=> ?_)
 refine zD (zr ?_)
 refine zc (zJ (zn (zD (zr ?_))))
 refine zb ?_
 refine yH ?_
 intro V1 hV1
 refine zc (zJ (zn (xj ?_)))
 refine vz rfl rfl ⟨_,by repeat(first|exact List.Sublist.slnil|refine List.Sublist.cons_cons _ ?_),List.Perm.refl _⟩ (⟨_,rfl,‹_›,rfl⟩)
theorem l0O (c id:List UInt8)(piv:Int)(q:Nat):(if q=0 then c.getD 0 0^^^u8 (id.length:Int)else c.getD q 0)=nF c id piv 0 0 q:=by
 unfold nF
 rw[if_neg (show ¬(13-0≤q∧q<13) by omega),if_neg (show ¬(8-id.length≤q∧q<8-id.length+0) by omega)]
 by_cases h:q=0
 ·subst h;simp
 simp[h]
theorem h0C {c:List UInt8}(h:c.length=13):a0a c=arB 13 (fun q=>c.getD q 0):=by
 rw[arB]
 congr 1
 apply List.ext_getElem
 ·rw[a0L,h]
 intro i h1 h2
 simp[fnB,h1]
theorem n0U {piv:Int}{i:Nat}{z:Int}(hz:z=8*(i:Int))(hi:i<5):piv.fdiv (2^ (min z.toNat IntKind.i64.bits))=piv/2^ (8*i):=by
 subst hz
 have e:min (8*(i:Int)).toNat IntKind.i64.bits=8*i:=by
  show min _ 64=_
  omega
 rw[e,Int.fdiv_eq_ediv_of_nonneg _ (by exact Int.le_of_lt (Int.pow_pos (by omega)))]
theorem l0M {c id:List UInt8}{piv:Int}(h:c.length≠13∨7<id.length):b0S c id piv=([],1):=if_pos h
theorem l0L {c id:List UInt8}{piv:Int}(h: ¬(c.length≠13∨7<id.length))(h2:piv<0∨1099511627775<piv):b0S c id piv=([],8):=(if_neg h).trans (if_pos h2)
theorem l0K {c id:List UInt8}{piv:Int}(h: ¬(c.length≠13∨7<id.length))(h2: ¬(piv<0∨1099511627775<piv)):b0S c id piv=(l0N c id piv,0):=(if_neg h).trans (if_neg h2)
abbrev u0x (r:List UInt8×Int):AV:= .tup [roB r.1,.val (.int .i64 r.2)]
theorem g0c (c id:List UInt8)(piv:Int)(hcl:c.length≤1000000):Sp Tryz.prog 66 [roB c,roB id,.val (.int .i64 piv)] [] (Is (u0x (b0S c id piv))):=by
 refine yX Tryz.func66 _ Tryz.ntmps66 (fun w0 R0=> ?_)
 refine zD (zr ?_)
 refine zc ?_
 refine zc (zJ (zn (zD (zD (zr ?_)))))
 refine zb ?_
 refine zX ?_
 refine y2 ?_
 refine zb ?_
 refine yC ?_
 refine yb 15 ?_
 refine yB 16 ?_
 refine zI (zJ (zn ?_))
 refine yt (fun h1=> ?_) (fun h1=> ?_)<;>(try simp only[vT]at h1)
 ·rw[l0M (by omega)]
  refine zD (zr ?_)
  refine zc ?_
  refine zc (zJ (zn (xj (xx ?_))))
  refine wa yV yv (⟨rfl,rfl⟩)
 have hc:c.length=13:=by omega
 have hid:id.length≤7:=by omega
 refine y6 (zn (zD (zD (zr ?_))))
 refine zb ?_
 refine zT ?_
 refine zb ?_
 refine yC ?_
 refine yB 22 ?_
 refine zI (zJ (zn ?_))
 refine yt (fun h2=> ?_) (fun h2=> ?_)<;>(try simp only[vT]at h2)
 ·rw[l0L (by omega) (by omega)]
  refine zD (zr ?_)
  refine zc ?_
  refine zc (zJ (zn (xj (xx ?_))))
  refine wa yV yv (⟨rfl,rfl⟩)
 rw[l0K (by omega) (by omega)]
 have hb0:=h0C hc
 have hst0: ∀j,j=0→a0e (arB 13 (fun q=>c.getD q 0)) j [.val (.int .u8 (((c.getD 0 0)^^^u8 (id.length:Int)).toNat:Int))]=arB 13 (nF c id piv 0 0):=fun j hj=>by
  rw[a0P (by omega) _ hj]
  exact a0c fun q _=>l0O c id piv q
 have hge0: ∀j,j=0→(arB 13 (fun q=>c.getD q 0))[j]? =some (.val (.int .u8 (((c.getD 0 0)).toNat:Int))):=fun j hj=>a0o (by omega) hj
 have hal: ∀f,(arB 13 f).length=13:=fun f=>a0b _ _
 have hv0: ∀f q,q<13→(arB 13 f)[q]? =some (.val (.int .u8 ((f q).toNat:Int))):=fun f q hq=>a0o hq rfl
 refine y6 (zn (zD (zr ?_)))
 refine zb ?_
 refine vR (xM rfl Tryz.func69 rfl rfl rfl (r0z _ (by omega))) ?_
 intro V1 hV1
 refine zc ?_
 rw[hb0,hc]
 refine AO.g ?_
 refine G.openRow 0 rfl (by omega) (fun b8 cap8 hc1 hc2 hxs hVe=> ?_)
 subst hVe
 dsimp only[List.set]
 refine AO.u (zJ (zn (zD (zr ?_))))
 refine zb ?_
 refine vp ?_
 refine vO (O.load rfl rfl (by repeat(exact List.Mem.head _)) (by exact hge0 _ (by omega))) ?_
 refine zb ?_
 refine zX ?_
 refine xg ?_
 refine vE ?_
 refine vp ?_
 refine yO 0 rfl rfl rfl rfl rfl rfl (by rfl) (by rfl) (Nat.ble_eq_true_of_le (by rw[hal];omega)) (by exact hst0 _ (by omega)) (zJ (zn (zD (zD (zr ?_)))))
 refine zb ?_
 refine zX ?_
 refine zb (zJ (zn (xo ?_)))
 refine zi [(1,_),(2,_),(8,_),(36,_)] (fun nn E H=> ∃(i:Nat),(i≤id.length)∧nn=id.length-i∧E= [(37,.val (.int .i64 (i:Int)))]∧H= [.blk b8 5 (cap8*1) (arB 13 (nF c id piv i 0))]) _ (⟨0,by omega,rfl,rfl,rfl⟩) ?_
 rintro nn E H ⟨i,hi,rfl,rfl,rfl⟩
 dsimp only[cA,cN]
 refine zD (zr ?_)
 refine zT (zJ (zn (zD ?_)))
 refine yt (fun h3=> ?_) (fun h3=> ?_)<;>(try simp only[vT]at h3)
 ·have hil:i<id.length:=by omega
  have hge: ∀j,j=8-id.length+i→(arB 13 (nF c id piv i 0))[j]? =some (.val (.int .u8 ((nF c id piv i 0 (8-id.length+i)).toNat:Int))):=fun j hj=>a0o (by omega) hj
  have hst: ∀j,j=8-id.length+i→a0e (arB 13 (nF c id piv i 0)) j [.val (.int .u8 ((nF c id piv i 0 (8-id.length+i)^^^bt id i).toNat:Int))]=arB 13 (nF c id piv (i+1) 0):=fun j hj=>by
   rw[a0P (by omega) _ hj]
   exact a0c fun q _=>v0q hid hil q
  refine y6 (zn (zD (xo (zD (zr ?_)))))
  refine zb ?_
  refine zc (zJ (zn ?_))
  refine yA 14 ?_
  simp only[cT,cZ,cD,cO]
  refine zH ?_
  refine zH ?_
  refine vP (x3 rfl rfl) ?_
  refine xX ?_
  refine zH ?_
  refine xm ?_
  refine wW ?_
  refine vP (O.load rfl rfl (by repeat(exact List.Mem.head _)) (by exact hge _ (by omega))) ?_
  refine zH ?_
  refine zH ?_
  refine xr ?_
  refine vP (O.loadR rfl rfl (by exact b0l hil (by omega))) ?_
  refine wq ?_
  refine wW ?_
  refine vb ?_
  simp only[a0h,cN,cA,cP]
  refine yO 0 rfl rfl rfl rfl rfl rfl (by rfl) (by rfl) (Nat.ble_eq_true_of_le (by rw[hal];omega)) (by exact hst _ (by omega)) (zJ (xE (zn (zr ?_))))
  refine zB ?_
  refine zb (zJ ?_)
  refine zu _ _ _ (by omega) (⟨i+1,by omega,rfl,rfl,rfl⟩)
 obtain rfl:i=id.length:=by omega
 refine wj ?_
 refine x8 ?_
 refine wd ?_
 refine xD (zn (zD (zD (zr ?_))))
 refine zc (zJ (zn (xo ?_)))
 refine zi [(2,_),(8,_)] (fun nn E H=> ∃(i:Nat),(i≤5)∧nn=5-i∧E= [(10,.val (.int .i64 (i:Int)))]∧H= [.blk b8 5 (cap8*1) (arB 13 (nF c id piv id.length i))]) _ (⟨0,by omega,rfl,rfl,rfl⟩) ?_
 rintro nn E H ⟨i,hi,rfl,rfl,rfl⟩
 dsimp only[cA,cN]
 refine zD (zD (zr ?_))
 refine zb ?_
 refine zT (zJ (zn ?_))
 refine yt (fun h4=> ?_) (fun h4=> ?_)<;>(try simp only[vT]at h4)
 ·have hge: ∀j,j=12-i→(arB 13 (nF c id piv id.length i))[j]? =some (.val (.int .u8 ((nF c id piv id.length i (12-i)).toNat:Int))):=fun j hj=>a0o (by omega) hj
  have hst: ∀j,j=12-i→a0e (arB 13 (nF c id piv id.length i)) j [.val (.int .u8 ((nF c id piv id.length i (12-i)^^^u8 (piv/2^ (8*i))).toNat:Int))]=arB 13 (nF c id piv id.length (i+1)):=fun j hj=>by
   rw[a0P (by omega) _ hj]
   exact a0c fun q _=>s0d (by omega) q
  refine y6 (zn (zD (xo ?_)))
  refine yA 12 ?_
  simp only[cT,cZ,cD,cO]
  refine zH ?_
  refine zH ?_
  refine xX ?_
  refine wW ?_
  refine vP (O.load rfl rfl (by repeat(exact List.Mem.head _)) (by exact hge _ (by omega))) ?_
  refine zH ?_
  refine zH ?_
  refine xv ?_
  refine vP (O.shr rfl rfl rfl (by omega) (n0U (by rfl) (by omega))) ?_
  refine vP (O.conv rfl rfl d0m) ?_
  refine wq ?_
  refine wW ?_
  refine vb ?_
  simp only[a0h,cN,cA,cP]
  refine yO 0 rfl rfl rfl rfl rfl rfl (by rfl) (by rfl) (Nat.ble_eq_true_of_le (by rw[hal];omega)) (by exact hst _ (by omega)) (zJ (xE (zn (zr ?_))))
  refine zb ?_
  refine zB ?_
  refine zc (zJ ?_)
  refine zu _ _ _ (by omega) (⟨i+1,by omega,rfl,rfl,rfl⟩)
 obtain rfl:i=5:=by omega
 refine wj ?_
 refine x8 ?_
 refine wd ?_
 refine xD (zn (zD (zr ?_)))
 refine zb ?_
 refine zc ?_
 refine zc (zJ (zn (xj ?_)))
 refine AQ.g ?_
 refine G.closeRow (b:=b8) (sz:=1) (n:=13) (cap:=cap8) 0 rfl (hal _) rfl hc1 hc2 ?_
 refine AQ.u ?_
 dsimp only[List.set]
 refine AQ.g ?_
 refine yf 0 [6] ?_
 refine AQ.u ?_
 try dsimp only[List.map,List.eraseIdx,cA,cN]
 refine AQ.ret2 rfl rfl rfl nS (⟨by rw[u0x,l0N,b0L];rfl,rfl⟩)
theorem i0h (c id:List UInt8)(piv:Int)(hcl:c.length≤1000000):Sp Tryz.prog 59 [roB c,roB id,.val (.int .i64 piv)] [] (Is (u0x (b0S c id piv))):=by
 refine yX Tryz.func59 _ Tryz.ntmps59 (fun w0 R0=> ?_)
 refine zD (zr ?_)
 refine zc ?_
 refine zc (zJ (zn (zD (zD (zr ?_)))))
 refine zb ?_
 refine zX ?_
 refine y2 ?_
 refine zb ?_
 refine yC ?_
 refine yb 16 ?_
 refine yB 17 ?_
 refine zI (zJ (zn ?_))
 refine yt (fun h1=> ?_) (fun h1=> ?_)<;>(try simp only[vT]at h1)
 ·rw[l0M (by omega)]
  refine zD (zr ?_)
  refine zc ?_
  refine zc (zJ (zn (xj (xx ?_))))
  refine wa yV yv (⟨rfl,rfl⟩)
 have hc:c.length=13:=by omega
 have hid:id.length≤7:=by omega
 refine y6 (zn (zD (zD (zr ?_))))
 refine zb ?_
 refine zT ?_
 refine zb ?_
 refine yC ?_
 refine yB 23 ?_
 refine zI (zJ (zn ?_))
 refine yt (fun h2=> ?_) (fun h2=> ?_)<;>(try simp only[vT]at h2)
 ·rw[l0L (by omega) (by omega)]
  refine zD (zr ?_)
  refine zc ?_
  refine zc (zJ (zn (xj (xx ?_))))
  refine wa yV yv (⟨rfl,rfl⟩)
 rw[l0K (by omega) (by omega)]
 have hb0:=h0C hc
 have hst0: ∀j,j=0→a0e (arB 13 (fun q=>c.getD q 0)) j [.val (.int .u8 (((c.getD 0 0)^^^u8 (id.length:Int)).toNat:Int))]=arB 13 (nF c id piv 0 0):=fun j hj=>by
  rw[a0P (by omega) _ hj]
  exact a0c fun q _=>l0O c id piv q
 have hge0: ∀j,j=0→(arB 13 (fun q=>c.getD q 0))[j]? =some (.val (.int .u8 (((c.getD 0 0)).toNat:Int))):=fun j hj=>a0o (by omega) hj
 have hal: ∀f,(arB 13 f).length=13:=fun f=>a0b _ _
 have hv0: ∀f q,q<13→(arB 13 f)[q]? =some (.val (.int .u8 ((f q).toNat:Int))):=fun f q hq=>a0o hq rfl
 refine y6 (zn (zD (zr ?_)))
 refine zb ?_
 refine vR (xM rfl Tryz.func108 rfl rfl rfl (n0c _ (by omega))) ?_
 intro V1 hV1
 refine zc ?_
 rw[hb0,hc]
 refine AO.g ?_
 refine G.openRow 0 rfl (by omega) (fun b8 cap8 hc1 hc2 hxs hVe=> ?_)
 subst hVe
 dsimp only[List.set]
 refine AO.u (zJ (zn (zD (zr ?_))))
 refine zb ?_
 refine vp ?_
 refine vO (O.load rfl rfl (by repeat(exact List.Mem.head _)) (by exact hge0 _ (by omega))) ?_
 refine zb ?_
 refine zX ?_
 refine xg ?_
 refine vE ?_
 refine vp ?_
 refine yO 0 rfl rfl rfl rfl rfl rfl (by rfl) (by rfl) (Nat.ble_eq_true_of_le (by rw[hal];omega)) (by exact hst0 _ (by omega)) (zJ (zn (zD (zD (zr ?_)))))
 refine zb ?_
 refine zX ?_
 refine zb (zJ (zn (xo ?_)))
 refine zi [(1,_),(2,_),(8,_),(36,_),(37,_)] (fun nn E H=> ∃(i:Nat),(i≤id.length)∧nn=id.length-i∧E= [(38,.val (.int .i64 (i:Int)))]∧H= [.blk b8 5 (cap8*1) (arB 13 (nF c id piv i 0))]) _ (⟨0,by omega,rfl,rfl,rfl⟩) ?_
 rintro nn E H ⟨i,hi,rfl,rfl,rfl⟩
 dsimp only[cA,cN]
 refine zD (zr ?_)
 refine zT (zJ (zn (zD ?_)))
 refine yt (fun h3=> ?_) (fun h3=> ?_)<;>(try simp only[vT]at h3)
 ·have hil:i<id.length:=by omega
  have hge: ∀j,j=8-id.length+i→(arB 13 (nF c id piv i 0))[j]? =some (.val (.int .u8 ((nF c id piv i 0 (8-id.length+i)).toNat:Int))):=fun j hj=>a0o (by omega) hj
  have hst: ∀j,j=8-id.length+i→a0e (arB 13 (nF c id piv i 0)) j [.val (.int .u8 ((nF c id piv i 0 (8-id.length+i)^^^bt id i).toNat:Int))]=arB 13 (nF c id piv (i+1) 0):=fun j hj=>by
   rw[a0P (by omega) _ hj]
   exact a0c fun q _=>v0q hid hil q
  refine y6 (zn (zD (xo (zD (zr ?_)))))
  refine zb ?_
  refine ye ?_
  refine vO (O.loadR rfl rfl (by exact b0l hil (by omega))) ?_
  refine zc ?_
  refine zc (zJ (zn (zr ?_)))
  refine zb ?_
  refine zb ?_
  refine zX ?_
  refine yN ?_
  refine zb ?_
  refine zB ?_
  refine vp ?_
  refine vO (O.load rfl rfl (by repeat(exact List.Mem.head _)) (by exact hge _ (by omega))) ?_
  refine zb ?_
  refine vE ?_
  refine vp ?_
  refine yO 0 rfl rfl rfl rfl rfl rfl (by rfl) (by rfl) (Nat.ble_eq_true_of_le (by rw[hal];omega)) (by exact hst _ (by omega)) (zJ (xE (zn (zr ?_))))
  refine zB ?_
  refine zb (zJ ?_)
  refine zu _ _ _ (by omega) (⟨i+1,by omega,rfl,rfl,rfl⟩)
 obtain rfl:i=id.length:=by omega
 refine wj ?_
 refine x8 ?_
 refine wd ?_
 refine xD (zn (zD (zD (zr ?_))))
 refine zc (zJ (zn (xo ?_)))
 refine zi [(2,_),(8,_)] (fun nn E H=> ∃(i:Nat),(i≤5)∧nn=5-i∧E= [(11,.val (.int .i64 (i:Int)))]∧H= [.blk b8 5 (cap8*1) (arB 13 (nF c id piv id.length i))]) _ (⟨0,by omega,rfl,rfl,rfl⟩) ?_
 rintro nn E H ⟨i,hi,rfl,rfl,rfl⟩
 dsimp only[cA,cN]
 refine zD (zD (zr ?_))
 refine zb ?_
 refine zT (zJ (zn ?_))
 refine yt (fun h4=> ?_) (fun h4=> ?_)<;>(try simp only[vT]at h4)
 ·have hge: ∀j,j=12-i→(arB 13 (nF c id piv id.length i))[j]? =some (.val (.int .u8 ((nF c id piv id.length i (12-i)).toNat:Int))):=fun j hj=>a0o (by omega) hj
  have hst: ∀j,j=12-i→a0e (arB 13 (nF c id piv id.length i)) j [.val (.int .u8 ((nF c id piv id.length i (12-i)^^^u8 (piv/2^ (8*i))).toNat:Int))]=arB 13 (nF c id piv id.length (i+1)):=fun j hj=>by
   rw[a0P (by omega) _ hj]
   exact a0c fun q _=>s0d (by omega) q
  refine y6 (zn (zD (xo ?_)))
  refine yA 12 ?_
  simp only[cT,cZ,cD,cO]
  refine zH ?_
  refine zH ?_
  refine xX ?_
  refine wW ?_
  refine vP (O.load rfl rfl (by repeat(exact List.Mem.head _)) (by exact hge _ (by omega))) ?_
  refine zH ?_
  refine zH ?_
  refine xv ?_
  refine vP (O.shr rfl rfl rfl (by omega) (n0U (by rfl) (by omega))) ?_
  refine vP (O.conv rfl rfl d0m) ?_
  refine wq ?_
  refine wW ?_
  refine vb ?_
  simp only[a0h,cN,cA,cP]
  refine yO 0 rfl rfl rfl rfl rfl rfl (by rfl) (by rfl) (Nat.ble_eq_true_of_le (by rw[hal];omega)) (by exact hst _ (by omega)) (zJ (xE (zn (zr ?_))))
  refine zb ?_
  refine zB ?_
  refine zc (zJ ?_)
  refine zu _ _ _ (by omega) (⟨i+1,by omega,rfl,rfl,rfl⟩)
 obtain rfl:i=5:=by omega
 refine wj ?_
 refine x8 ?_
 refine wd ?_
 refine xD (zn (zD (zr ?_)))
 refine zb ?_
 refine zc ?_
 refine zc (zJ (zn (xj ?_)))
 refine AQ.g ?_
 refine G.closeRow (b:=b8) (sz:=1) (n:=13) (cap:=cap8) 0 rfl (hal _) rfl hc1 hc2 ?_
 refine AQ.u ?_
 dsimp only[List.set]
 refine AQ.g ?_
 refine yf 0 [6] ?_
 refine AQ.u ?_
 try dsimp only[List.map,List.eraseIdx,cA,cN]
 refine AQ.ret2 rfl rfl rfl nS (⟨by rw[u0x,l0N,b0L];rfl,rfl⟩)
def ext (n:Int):Int×List UInt8:=if n<13 then(n,[])else if n<269 then(13,[u8 (n-13)])else(14,[u8 ((n-269)/256),u8 (n-269)])
theorem c0v (n:Int)(h:0≤n):0≤(ext n).1∧(ext n).1≤14:=by unfold ext;(repeat' split)<;>simp<;>omega
theorem f0d (n:Int):(ext n).2.length≤2:=by unfold ext;(repeat' split)<;>simp
def hdr (d n:Int):List UInt8:=u8 (16*(ext d).1+(ext n).1)::((ext d).2++(ext n).2)
theorem p0k (d n:Int):(hdr d n).length≤5:=by
 have:=f0d d
 have:=f0d n
 simp only[hdr,cL,cH];omega
def h0m:Int→List Opt→List UInt8
 |_,[]=> []
 |l,o::os=>hdr (o.num-l) o.val.length++o.val++h0m o.num os
def a0R:Int→List Opt→Int
 |l,[]=>l
 |_,o::os=>a0R o.num os
theorem i0X (o:Opt): ∀(l:Int) (os:List Opt),h0m l (os++[o])=h0m l os++(hdr (o.num-a0R l os) o.val.length++o.val)
 |l,[]=>by simp[h0m,a0R]
 |l,p::os=>by simp[h0m,a0R,i0X o p.num os]
theorem b0r (o:Opt): ∀(l:Int) (os:List Opt),a0R l (os++[o])=o.num
 |l,[]=>rfl
 |l,p::os=>b0r o p.num os
def AscO:Int→List Opt→Prop
 |_,[]=>True
 |l,o::os=>l≤o.num∧o.num≤65535∧(o.val.length:Int)≤1034∧AscO o.num os
instance AscO.dec: ∀(l:Int) (os:List Opt),Decidable (AscO l os)
 |_,[]=>isTrue trivial
 |l,o::os=>by
  unfold AscO
  have:=AscO.dec o.num os
  infer_instance
theorem e0H (o:Opt): ∀(l:Int) (os:List Opt),AscO l (os++[o])↔AscO l os∧a0R l os≤o.num∧o.num≤65535∧(o.val.length:Int)≤1034
 |l,[]=>by simp[AscO,a0R]
 |l,p::os=>by simp only[cA,AscO,a0R,e0H o p.num os];constructor<;>(rintro h;simp_all)
theorem m0k: ∀{l:Int} {os ps:List Opt},AscO l (os++ps)→AscO l os
 |l,[],ps,h=>trivial
 |l,o::os,ps,h=>⟨h.1,h.2.1,h.2.2.1,m0k h.2.2.2⟩
theorem c0l {l:Int}{os:List Opt}(h:AscO l os)(k:Nat):AscO l (os.take k):=m0k (ps:=os.drop k) (by rw[List.take_append_drop];exact h)
theorem d0B {l:Int}{os:List Opt}(h:AscO l os){k:Nat}(hk:k<os.length):a0R l (os.take k)≤(oat os k).num∧(oat os k).num≤65535∧((oat os k).val.length:Int)≤1034:=by
 have:=c0l h (k+1)
 rw[a0i Opt.none hk,e0H]at this
 exact this.2
theorem i0l: ∀{l:Int} {os:List Opt},AscO l os→l≤a0R l os∧(os≠ []→a0R l os≤65535)
 |l,[],h=>⟨Int.le_refl _,fun h=>absurd rfl h⟩
 |l,o::os,h=>by
  have:=i0l h.2.2.2
  refine⟨Int.le_trans h.1 this.1,fun _=> ?_⟩
  cases os with
  |nil=>exact h.2.1
  |cons p os=>exact this.2 (by simp)
theorem e0v {l:Int}{os:List Opt}(h:AscO l os)(hl:l≤65535):l≤a0R l os∧a0R l os≤65535:=by
 refine⟨(i0l h).1,?_⟩
 cases os with
 |nil=>exact hl
 |cons p os=>exact(i0l h).2 (by simp)
theorem h0Y: ∀{l:Int} {os:List Opt},AscO l os→(h0m l os).length≤os.length*1039
 |l,[],_=>by simp[h0m]
 |l,o::os,h=>by
  have h1:=h0Y h.2.2.2
  have h2:=p0k (o.num-l) o.val.length
  have h3:=h.2.2.1
  simp only[h0m,cH,cL];omega
def g0t (m:Msg):List UInt8:= [u8 (64+16*m.ty+m.tok.length),u8 m.code,u8 (m.id/256),u8 m.id]
def raw (m:Msg):List UInt8:=g0t m++m.tok++h0m 0 m.opts++(if m.pay= []then []else 255::m.pay)
def i0D (c:Int):Prop:=c/32=0∨c/32=2∨c/32=4∨c/32=5
def OkM (m:Msg):Prop:=(0≤m.ty∧m.ty≤3∧0≤m.code∧m.code≤255∧i0D m.code)∧(0≤m.id∧m.id≤65535∧(m.tok.length:Int)≤8∧(m.opts.length:Int)≤32)∧AscO 0 m.opts∧
 (m.code=0→(m.tok.length:Int)+m.opts.length+m.pay.length≤0)∧(m.ty=3→m.code=0)∧(m.pay.length:Int)≤4096
instance (c:Int):Decidable (i0D c):=by unfold i0D;infer_instance
instance (m:Msg):Decidable (OkM m):=by unfold OkM;infer_instance
def ValM (m:Msg):Prop:=OkM m∧((raw m).length:Int)≤4096
instance (m:Msg):Decidable (ValM m):=by unfold ValM;infer_instance
theorem o0u {m:Msg}(h:OkM m):(raw m).length≤100000:=by
 have h1:=h0Y h.2.2.1
 have h2:=h.2.1.2.2.1
 have h3:=h.2.1.2.2.2
 have h4:=h.2.2.2.2.2
 have h5:(if m.pay= []then []else(255:UInt8)::m.pay).length≤m.pay.length+1:=by split<;>simp
 simp only[raw,g0t,cH,cL,cE]at h5⊢
 omega
theorem g0y (n:Int)(hn: -1152921504606846976≤n∧n≤1152921504606846976):Sp Tryz.prog 183 [.val (.int .i64 n)] [] (Is (.tup [.val (.int .i64 (ext n).1),roB (ext n).2])):=by
 refine yX Tryz.func183 _ Tryz.ntmps183 (fun w0 R0=> ?_)
 refine zD (zr ?_)
 refine zc ?_
 refine zc (zJ (zn (zD (xo (zD (zr ?_))))))
 refine zb ?_
 refine zT ?_
 refine zc (zJ (zn ?_))
 refine yt (fun h=> ?_) (fun h=> ?_)<;>(try simp only[vT]at h)
 ·have e:ext n=(n,[]):=by unfold ext;rw[if_pos h]
  refine zD (zr ?_)
  refine zb ?_
  refine zc ?_
  refine zc (zJ (zn (xj ?_)))
  refine ww (xx ?_)
  refine AQ.g ?_
  refine G.nilRo 3 rfl ?_
  refine AQ.u ?_
  try dsimp only[List.map,List.eraseIdx,cA,cN]
  refine AQ.ret2 rfl rfl rfl nS (⟨by rw[e];rfl,rfl⟩)
 refine zD (zr ?_)
 refine zb ?_
 refine zT ?_
 refine zc (zJ (zn ?_))
 refine yt (fun h2=> ?_) (fun h2=> ?_)<;>(try simp only[vT]at h2)
 ·have e:ext n=(13,[u8 (n-13)]):=by unfold ext;rw[if_neg (by omega),if_pos h2]
  refine zD (zr ?_)
  refine zb ?_
  refine yN ?_
  refine xg ?_
  refine zR ?_
  intro B1
  refine zc ?_
  refine zc (zJ (zn (xj ?_)))
  refine ww (xx ?_)
  refine AQ.g ?_
  refine G.freezeSl 0 3 rfl rfl ⟨Nat.le_refl _,by unfold maxLen;omega⟩ ?_;refine G.unfull 3 rfl ?_
  refine AQ.u ?_
  try dsimp only[List.map,List.eraseIdx,cA,cN]
  refine AQ.ret2 rfl rfl rfl nS (⟨by rw[e];rfl,rfl⟩)
 have e:ext n=(14,[u8 ((n-269)/256),u8 (n-269)]):=by unfold ext;rw[if_neg (by omega),if_neg (by omega)]
 refine y6 (xE (zn (zD (zr ?_))))
 refine zb ?_
 refine yN ?_
 refine vg ?_
 refine xg ?_
 refine zb ?_
 refine yN ?_
 refine xg ?_
 refine zR ?_
 intro B2
 refine zc ?_
 refine zc (zJ (zn (xj ?_)))
 refine AQ.g ?_
 refine G.freezeSl 0 3 rfl rfl ⟨Nat.le_refl _,by unfold maxLen;omega⟩ ?_;refine G.unfull 3 rfl ?_
 refine AQ.u ?_
 try dsimp only[List.map,List.eraseIdx,cA,cN]
 refine AQ.ret2 rfl rfl rfl nS (⟨by rw[e];rfl,rfl⟩)
theorem l0B (n:Int)(hn: -1152921504606846976≤n∧n≤1152921504606846976):Sp Tryz.prog 182 [.val (.int .i64 n)] [] (Is (.tup [.val (.int .u8 ((u8 (ext n).1).toNat:Int)),roB (ext n).2])):=by
 refine yX Tryz.func182 _ Tryz.ntmps182 (fun w0 R0=> ?_)
 refine zD (zr ?_)
 refine zc ?_
 refine zc (zJ (zn (zD (xo (zD (zr ?_))))))
 refine zb ?_
 refine zT ?_
 refine zc (zJ (zn ?_))
 refine yt (fun h=> ?_) (fun h=> ?_)<;>(try simp only[vT]at h)
 ·have e:ext n=(n,[]):=by unfold ext;rw[if_pos h]
  refine zD (zr ?_)
  refine zb ?_
  refine xg ?_
  refine zc ?_
  refine zc (zJ (zn (xj ?_)))
  refine ww (xx ?_)
  refine AQ.g ?_
  refine G.nilRo 3 rfl ?_
  refine AQ.u ?_
  try dsimp only[List.map,List.eraseIdx,cA,cN]
  refine AQ.ret2 rfl rfl rfl nS (⟨by rw[e];rfl,rfl⟩)
 refine zD (zr ?_)
 refine zb ?_
 refine zT ?_
 refine zc (zJ (zn ?_))
 refine yt (fun h2=> ?_) (fun h2=> ?_)<;>(try simp only[vT]at h2)
 ·have e:ext n=(13,[u8 (n-13)]):=by unfold ext;rw[if_neg (by omega),if_pos h2]
  refine zD (zr ?_)
  refine zb ?_
  refine yN ?_
  refine xg ?_
  refine zR ?_
  intro B1
  refine zc ?_
  refine zc (zJ (zn (xj ?_)))
  refine ww (xx ?_)
  refine AQ.g ?_
  refine G.freezeSl 0 3 rfl rfl ⟨Nat.le_refl _,by unfold maxLen;omega⟩ ?_;refine G.unfull 3 rfl ?_
  refine AQ.u ?_
  try dsimp only[List.map,List.eraseIdx,cA,cN]
  refine AQ.ret2 rfl rfl rfl nS (⟨by rw[e];rfl,rfl⟩)
 have e:ext n=(14,[u8 ((n-269)/256),u8 (n-269)]):=by unfold ext;rw[if_neg (by omega),if_neg (by omega)]
 refine y6 (xE (zn (zD (zr ?_))))
 refine zb ?_
 refine yN ?_
 refine vg ?_
 refine xg ?_
 refine zb ?_
 refine yN ?_
 refine xg ?_
 refine zR ?_
 intro B2
 refine zc ?_
 refine zc (zJ (zn (xj ?_)))
 refine AQ.g ?_
 refine G.freezeSl 0 3 rfl rfl ⟨Nat.le_refl _,by unfold maxLen;omega⟩ ?_;refine G.unfull 3 rfl ?_
 refine AQ.u ?_
 try dsimp only[List.map,List.eraseIdx,cA,cN]
 refine AQ.ret2 rfl rfl rfl nS (⟨by rw[e];rfl,rfl⟩)
theorem l0i (m:Msg):Sp Tryz.prog 162 [b0c m] [] (Is (.val (.bool (decide (OkM m))))):=by
 obtain⟨ty,code,id,tok,opts,pay⟩:=m
 refine yX Tryz.func162 _ Tryz.ntmps162 (fun w0 R0=> ?_)
 refine zD (zr ?_)
 refine yo ?_
 intro B1
 refine zc (zJ (zn (zD (zr ?_))))
 refine zq ?_
 refine zv ?_
 refine vO (wC 5 32) ?_
 refine zc (zJ (zn (zD (zD (zr ?_)))))
 refine zq ?_
 refine zv ?_
 refine zT ?_
 refine zb ?_
 refine zN ?_
 refine zw 14 ?_
 refine yB 15 ?_
 refine zI ?_
 refine zb ?_
 refine zN ?_
 refine zw 19 ?_
 refine AO.opG rfl rfl rfl (fun hp=>ve 20 rfl (by exact hp) yy) ?_
 refine zI ?_
 refine zb ?_
 refine zN ?_
 refine zw 24 ?_
 refine yB 25 ?_
 refine zI ?_
 refine zb ?_
 refine yC ?_
 refine xW 29 ?_
 refine wQ 30 ?_
 refine yC ?_
 refine xW 32 ?_
 refine va 31 ?_
 refine wQ 34 ?_
 refine yC ?_
 refine xW 36 ?_
 refine va 35 ?_
 refine wQ 38 ?_
 refine yC ?_
 refine xW 40 ?_
 refine va 39 ?_
 refine zI (zJ (zn ?_))
 refine yt (fun h=> ?_) (fun h=> ?_)<;>(try simp only[vT]at h)
 ·have e:decide (OkM ⟨ty,code,id,tok,opts,pay⟩)=false:=by
   refine decide_eq_false fun hk=> ?_
   obtain⟨⟨a1,a2,a3,a4,a5⟩, -⟩:=hk
   simp only[i0D]at*
   omega
  refine zD (zr ?_)
  refine zc (zJ (zn (xj (xx ?_))))
  refine vz rfl rfl nS (⟨congrArg (fun z=>AV.val (.bool z)) e.symm,rfl⟩)
 refine y6 (zn (zD (zD (zr ?_))))
 refine zq ?_
 refine zv ?_
 refine zT ?_
 refine zb ?_
 refine zN ?_
 refine zw 48 ?_
 refine yB 49 ?_
 refine zI ?_
 refine zb ?_
 refine zN ?_
 refine zw 53 ?_
 refine yb 54 ?_
 refine yB 55 ?_
 refine zI ?_
 refine zb ?_
 refine zN ?_
 refine zw 59 ?_
 refine yb 60 ?_
 refine yB 61 ?_
 refine zI (zJ (zn ?_))
 refine yt (fun h2=> ?_) (fun h2=> ?_)<;>(try simp only[vT]at h2)
 ·have e:decide (OkM ⟨ty,code,id,tok,opts,pay⟩)=false:=by
   refine decide_eq_false fun hk=> ?_
   obtain⟨-,⟨a1,a2,a3,a4⟩, -⟩:=hk
   simp only at*
   omega
  refine zD (zr ?_)
  refine zc (zJ (zn (xj (xx ?_))))
  refine vz rfl rfl nS (⟨congrArg (fun z=>AV.val (.bool z)) e.symm,rfl⟩)
 refine y6 (zn (zD (zr ?_)))
 refine zc (zJ (zn (zD (zD (zr ?_)))))
 refine zq ?_
 refine zv ?_
 refine zX ?_
 refine zb (zJ (zn (xo ?_)))
 refine zi [(1,_),(65,_),(66,_)] (fun nn E H=> ∃(k:Nat),(k≤opts.length)∧(AscO 0 (opts.take k))∧nn=opts.length-k∧E= [(4,.val (.int .i64 (a0R 0 (opts.take k)))),(67,.val (.int .i64 (k:Int)))]∧H= [.blk B1 29 6 [.val (.int .i64 ty),.val (.int .i64 code),.val (.int .i64 id),roB tok,roO opts,roB pay]]) _ (⟨0,by omega,trivial,rfl,rfl,rfl⟩) ?_
 rintro nn E H ⟨k,h1,ha,rfl,rfl,rfl⟩
 dsimp only[cA,cN]
 refine zD (zr ?_)
 refine zT (zJ (zn (zD ?_)))
 refine yt (fun h3=> ?_) (fun h3=> ?_)<;>(try simp only[vT]at h3)
 ·have hk:k<opts.length:=by omega
  refine y6 (zn (zD (xo (zD (zr ?_)))))
  refine ye ?_
  refine y3 ?_
  refine yh ?_
  intro B2
  refine zo 0 (zJ (zn (zD (zD (zr ?_)))))
  refine zq ?_
  refine zv ?_
  refine zb ?_
  refine zT ?_
  refine zb ?_
  refine zN ?_
  refine zw 76 ?_
  refine yB 77 ?_
  refine zI ?_
  refine zb ?_
  refine zN ?_
  refine zw 81 ?_
  refine yb 82 ?_
  refine yB 83 ?_
  refine zI (zJ (zn ?_))
  refine yt (fun h4=> ?_) (fun h4=> ?_)<;>(try simp only[vT]at h4)
  ·have e:decide (OkM ⟨ty,code,id,tok,opts,pay⟩)=false:=by
    refine decide_eq_false fun hk'=> ?_
    obtain⟨-, -,a1, -⟩:=hk'
    have:=d0B a1 hk
    simp only at this
    omega
   refine zD (zr ?_)
   refine zc (zJ (zn (xj (xx ?_))))
   refine ww (xx ?_)
   refine AQ.loopR ?_
   refine ww (xx ?_)
   refine vz rfl rfl nS (⟨congrArg (fun z=>AV.val (.bool z)) e.symm,rfl⟩)
  have ha2:AscO 0 (opts.take (k+1)):=by
   rw[a0i Opt.none hk,e0H]
   exact⟨ha,h4.1.1,h4.1.2,h4.2⟩
  have hl2:a0R 0 (opts.take (k+1))=(oat opts k).num:=by rw[a0i Opt.none hk,b0r]
  refine y6 (zn (zr ?_))
  refine zq ?_
  refine zv ?_
  refine zc (zJ (xE (zn (zr ?_))))
  refine zB ?_
  refine zb (zJ ?_)
  refine zL _ _ _ (by omega) (⟨k+1,by omega,ha2,rfl,by rw[hl2],rfl⟩)
 obtain rfl:k=opts.length:=by omega
 rw[List.take_length]at ha
 have hw:(pay.length:Int)≤4096→IntKind.i64.wrap ((tok.length:Int)+opts.length+pay.length)=(tok.length:Int)+opts.length+pay.length:=fun h=>e0J (by omega)
 refine wj ?_
 refine x8 ?_
 refine wd ?_
 refine xD (zn (zD (zD (zr ?_))))
 refine zq ?_
 refine zv ?_
 refine z8 ?_
 refine zb ?_
 refine zN ?_
 refine zw 93 ?_
 refine yb 94 ?_
 refine zN ?_
 refine zw 96 ?_
 refine yb 97 ?_
 refine AO.opG rfl rfl rfl (fun hp=>ve 95 rfl (by exact hp) (ve 98 rfl (by exact hp) zG)) ?_
 refine zN ?_
 refine zw 100 ?_
 refine yb 101 ?_
 refine AO.opG rfl rfl rfl (fun hp=>ve 99 rfl (by exact hp) (ve 102 rfl (by exact hp) (O.add rfl rfl rfl (by rfl)))) ?_
 refine yB 103 ?_
 refine zW (zJ (zn ?_))
 refine yt (fun h5=> ?_) (fun h5=> ?_)<;>(try simp only[vT]at h5)
 ·have e:decide (OkM ⟨ty,code,id,tok,opts,pay⟩)=false:=by
   refine decide_eq_false fun hk'=> ?_
   obtain⟨-, -, -,a1, -,a2⟩:=hk'
   simp only at a1 a2
   have h6:=h5.2
   rw[hw a2]at h6
   have:=a1 h5.1
   omega
  refine zD (zr ?_)
  refine zc (zJ (zn (xj (xx ?_))))
  refine vz rfl rfl nS (⟨congrArg (fun z=>AV.val (.bool z)) e.symm,rfl⟩)
 refine y6 (zn (zD (zr ?_)))
 refine zq ?_
 refine zv ?_
 refine y2 ?_
 refine zb ?_
 refine zN ?_
 refine zw 110 ?_
 refine xe 111 ?_
 refine zI ?_
 refine zb ?_
 refine zN ?_
 refine zw 115 ?_
 refine yb 116 ?_
 refine xJ 117 ?_
 refine zW ?_
 refine zc (zJ (zn (xj ?_)))
 have e:decide (OkM ⟨ty,code,id,tok,opts,pay⟩)=((ty !=3||code==0)&&decide ((pay.length:Int)≤4096)):=by
  refine g0H ?_
  simp only[OkM,Bool.and_eq_true,Bool.or_eq_true,bne_iff_ne,beq_iff_eq,cQ,ne_eq]
  constructor
  ·rintro⟨-, -, -, -,a1,a2⟩
   refine⟨?_,a2⟩
   by_cases h9:ty=3
   ·exact .inr (a1 h9)
   exact .inl h9
  rintro⟨a1,a2⟩
  refine⟨⟨by omega,by omega,by omega,by omega,?_⟩,⟨by omega,by omega,by omega,by omega⟩,ha,?_,?_,a2⟩
  ·unfold i0D;omega
  ·intro h9
   rcases Int.lt_or_le 0 ((tok.length:Int)+opts.length+pay.length)with h|h
   ·exact absurd h (by have:=h5 h9;rw[hw a2]at this;omega)
   exact h
  intro h9
  rcases a1 with a1|a1
  ·exact absurd h9 a1
  exact a1
 refine vz rfl rfl nS (⟨congrArg (fun z=>AV.val (.bool z)) e.symm,rfl⟩)
def b0C (m:Msg)(k:Nat):List UInt8:=g0t m++m.tok++h0m 0 (m.opts.take k)
theorem d0G {m:Msg}{k:Nat}(h:k<m.opts.length):b0C m (k+1)=b0C m k++(hdr ((oat m.opts k).num-a0R 0 (m.opts.take k)) (oat m.opts k).val.length++(oat m.opts k).val):=by
 rw[b0C,a0i Opt.none h,i0X,b0C];simp
theorem i0W {m:Msg}(h:OkM m)(k:Nat):(b0C m k).length≤12+k*1039:=by
 have h1:=h0Y (c0l h.2.2.1 k)
 have h2:=h.2.1.2.2.1
 simp only[b0C,g0t,cH,cL,cE,List.length_take]at h1⊢
 have:min k m.opts.length*1039≤k*1039:=Nat.mul_le_mul_right _ (Nat.min_le_left _ _)
 omega
theorem o0w (m:Msg):raw m=b0C m m.opts.length++(if m.pay= []then []else 255::m.pay):=by rw[raw,b0C,List.take_length]
theorem j0y (m:Msg)(h:OkM m):Sp Tryz.prog 163 [b0c m] [] (Is (roB (raw m))):=by
 have hlen:=fun k=>i0W h k
 obtain⟨⟨a1,a2,a3,a4,a5⟩,⟨a6,a7,a8,a9⟩,a10, -, -,a11⟩:=h
 refine yX Tryz.func163 _ Tryz.ntmps163 (fun w0 R0=> ?_)
 have hd0a:(b0C m 0).length=4+m.tok.length:=by simp[b0C,g0t,h0m];omega
 have hd0b:a0a (b0C m 0)= .val (.int .u8 ((u8 (64+m.ty*16+m.tok.length)).toNat:Int)):: .val (.int .u8 ((u8 m.code).toNat:Int)):: .val (.int .u8 ((u8 (m.id/256)).toNat:Int)):: .val (.int .u8 ((u8 m.id).toNat:Int))::a0a m.tok:=by
  simp only[b0C,g0t,cZ,h0m,cP,a0U]
  simp[a0a,show m.ty*16=16*m.ty by omega]
 refine zD (zr ?_)
 refine yo ?_
 intro B1
 refine zc (zJ (zn (zD (zr ?_))))
 refine zq ?_
 refine zv ?_
 refine vO (O.shlK 4 16 rfl rfl rfl rfl (by rfl) (by exact e0J (by omega))) ?_
 refine vO (O.or_ rfl rfl rfl (o0L 6 (m:=64) (by decide) (by omega) (by omega))) ?_
 refine zq ?_
 refine zv ?_
 refine zX ?_
 refine vO (O.or_ rfl rfl rfl (o0L 4 (m:=16) (by decide) (by omega) (by omega))) ?_
 refine xg ?_
 refine zq ?_
 refine zv ?_
 refine xg ?_
 refine zq ?_
 refine zv ?_
 refine vg ?_
 refine xg ?_
 refine zq ?_
 refine zv ?_
 refine xg ?_
 refine zR ?_
 intro B2
 refine AO.g ?_
 refine xT B2 4 4 0 rfl rfl rfl (Nat.le_refl _) ?_
 refine AO.u ?_
 dsimp only[List.set]
 refine zc (zJ (zn (zD (zr ?_))))
 refine zb ?_
 refine zq ?_
 refine zp ?_
 refine zF 0 ?_
 intro V3 hV3
 refine zc (zJ (zn (zD (zr ?_))))
 refine zc (zJ (zn (zD (zD (zr ?_)))))
 refine zq ?_
 refine zp ?_
 refine zX ?_
 refine zb (zJ (zn (xo ?_)))
 refine zi [(1,_),(36,_),(37,_)] (fun nn E H=> ∃(k:Nat) (V:Value),(k≤m.opts.length)∧(V.oneCell'=true)∧nn=m.opts.length-k∧E= [(3,.val V),(4,.val (.int .i64 (a0R 0 (m.opts.take k)))),(38,.val (.int .i64 (k:Int)))]∧H= [.row V 5 1 (b0C m k).length (a0a (b0C m k)),.blk B1 29 6 [.val (.int .i64 m.ty),.val (.int .i64 m.code),.val (.int .i64 m.id),roB m.tok,roO m.opts,roB m.pay]]) _ (⟨0,V3,by omega,hV3,rfl,rfl,by rw[hd0b,hd0a]⟩) ?_
 rintro nn E H ⟨k,V,h1,hV,rfl,rfl,rfl⟩
 dsimp only[cA,cN]
 have hl0:=hlen k
 refine zD (zr ?_)
 refine zT (zJ (zn (zD ?_)))
 refine yt (fun h3=> ?_) (fun h3=> ?_)<;>(try simp only[vT]at h3)
 ·have hk:k<m.opts.length:=by omega
  have hl1:=hlen (k+1)
  have ho:=d0B a10 hk
  have hla:=e0v (c0l a10 k) (by omega)
  have hd1:=c0v ((oat m.opts k).num-a0R 0 (m.opts.take k)) (by omega)
  have hq1:=c0v ((oat m.opts k).val.length:Int) (by omega)
  have hd2:=f0d ((oat m.opts k).num-a0R 0 (m.opts.take k))
  have hq2:=f0d ((oat m.opts k).val.length:Int)
  have hdu:=a0I (x:=(ext ((oat m.opts k).num-a0R 0 (m.opts.take k))).1) (by omega)
  have hqu:=a0I (x:=(ext ((oat m.opts k).val.length:Int)).1) (by omega)
  have hxu:=a0I (x:=16*(ext ((oat m.opts k).num-a0R 0 (m.opts.take k))).1+(ext ((oat m.opts k).val.length:Int)).1) (by omega)
  have hxv:((u8 (16*(ext ((oat m.opts k).num-a0R 0 (m.opts.take k))).1+(ext ((oat m.opts k).val.length:Int)).1)).toNat:Int)=((u8 (ext ((oat m.opts k).num-a0R 0 (m.opts.take k))).1).toNat:Int)*16+((u8 (ext ((oat m.opts k).val.length:Int)).1).toNat:Int):=by omega
  have hlast:a0R 0 (m.opts.take (k+1))=(oat m.opts k).num:=by rw[a0i Opt.none hk,b0r]
  have hsc:a0a (b0C m (k+1))=a0a (b0C m k)++[.val (.int .u8 (((u8 (ext ((oat m.opts k).num-a0R 0 (m.opts.take k))).1).toNat:Int)*16+((u8 (ext ((oat m.opts k).val.length:Int)).1).toNat:Int)))]++a0a (ext ((oat m.opts k).num-a0R 0 (m.opts.take k))).2++a0a (ext ((oat m.opts k).val.length:Int)).2++a0a (oat m.opts k).val:=by
   rw[d0G hk,hdr]
   simp only[a0U,List.append_assoc,cA,a0a,List.map_cons,List.map_nil,cN,List.map_append,hxv]
  have hsl:(b0C m (k+1)).length=(b0C m k).length+1+(ext ((oat m.opts k).num-a0R 0 (m.opts.take k))).2.length+(ext ((oat m.opts k).val.length:Int)).2.length+(oat m.opts k).val.length:=by
   rw[d0G hk,hdr]
   simp only[cH,cL];omega
  refine y6 (zn (zD (xo (zD (zr ?_)))))
  refine ye ?_
  refine y3 ?_
  refine zd ?_
  intro B4
  refine za 0 (zJ (zn (zD (zr ?_))))
  refine zq ?_
  refine zv ?_
  refine zb ?_
  refine yN ?_
  refine vO (xM rfl Tryz.func182 rfl rfl rfl (l0B _ ⟨by omega,by omega⟩)) ?_
  refine zb ?_
  refine zK ?_
  refine zK ?_
  refine zc ?_
  refine zc (zJ (zn (zD (zr ?_))))
  refine zq ?_
  refine zv ?_
  refine zX ?_
  refine vO (xM rfl Tryz.func182 rfl rfl rfl (l0B _ ⟨by omega,by omega⟩)) ?_
  refine zb ?_
  refine zK ?_
  refine zK ?_
  refine zc ?_
  refine zc (zJ (zn (zD ?_)))
  refine AW.regionM [(0,false),(1,false),(2,false),(3,false),(4,false),(5,false),(7,false),(9,false),(11,false),(12,false),(6,true),(8,true),(10,true),(13,true),(14,true)] (by kernel_rfl) (by kernel_rfl) (by exact(by exact c0S 3 1 rfl rfl a0g)) ?_
  dsimp only[List.eraseIdx]
  refine yW ?_
  refine yW ?_
  refine vQ rfl (O.shlK 4 16 rfl rfl rfl rfl (by rfl) (by exact wU8 (by omega))) ?_
  refine yW ?_
  refine vQ rfl (O.or_ rfl rfl rfl (x0o 4 (m:=16) (by decide) (by omega) (by omega))) ?_
  refine xk ?_
  refine yW ?_
  refine yW ?_
  refine y1 ?_
  refine wi ?_
  refine xN _ (fun w0 R0=> ?_)
  refine zy 0 ?_
  intro V5 hV5
  refine AM.ok ?_
  dsimp only[a0q]
  refine xN _ (fun w0 R0=> ?_)
  refine zF 0 ?_
  intro V6 hV6
  refine AM.ok ?_
  dsimp only[a0q]
  refine xN _ (fun w0 R0=> ?_)
  refine zF 0 ?_
  intro V7 hV7
  refine AM.ok ?_
  dsimp only[a0q]
  refine xN _ (fun w0 R0=> ?_)
  refine zF 0 ?_
  intro V8 hV8
  refine AM.ok ?_
  dsimp only[a0q]
  refine xN _ (fun w0 R0=> ?_)
  refine zc ?_
  refine AM.ok ?_
  dsimp only[a0q]
  refine vd ?_
  dsimp only[cA,cN]
  refine zn (zr ?_)
  refine zq ?_
  refine zp ?_
  refine zc (zJ (xE (zn (zr ?_))))
  refine zB ?_
  refine zb (zJ ?_)
  refine xG _ _ _ (by omega) (⟨k+1,_,by omega,‹_›,rfl,by rw[hlast],by rw[hsc,hsl]⟩)
 obtain rfl:k=m.opts.length:=by omega
 have hre:raw m=b0C m m.opts.length++(if m.pay= []then []else 255::m.pay):=o0w m
 refine wj ?_
 refine x8 ?_
 refine wd ?_
 refine xD (zn (zD (zD (zr ?_))))
 refine zq ?_
 refine zp ?_
 refine zX ?_
 refine yZ (zJ (zn ?_))
 refine yt (fun h5=> ?_) (fun h5=> ?_)<;>(try simp only[vT]at h5)
 ·rw[if_neg (fun e=>by rw[e]at h5;simp at h5)]at hre
  refine AW.regionM [(0,false),(1,false),(3,false),(4,false),(2,true),(5,true),(6,true)] (by kernel_rfl) (by kernel_rfl) (by exact(by exact c0S 3 0 rfl rfl a0g)) ?_
  dsimp only[List.eraseIdx]
  refine yW ?_
  refine xk ?_
  refine y1 ?_
  refine wi ?_
  refine xN _ (fun w0 R0=> ?_)
  refine zy 0 ?_
  intro V9 hV9
  refine AM.ok ?_
  dsimp only[a0q]
  refine xN _ (fun w0 R0=> ?_)
  refine AO.append' (i:=0) rfl rfl rfl rfl (by rfl) (by rfl) rfl rfl rfl (by exact SrcA.ro TyD.ax (by(simp;done)) (lB rfl)) (by(simp[AV.cells,AV.one, *];done)) (by(unfold maxLen;omega)) (by omega) (by(dsimp only[List.set,List.append,cA,cN,a0w,a0v,a0y,a0e,a0A,AV.cells,List.map,List.map_cons,List.map_nil,List.take,List.drop,Nat.zero_add,Nat.add_zero,Nat.reduceAdd,Nat.reduceMul,Nat.zero_mul,Value.cells,List.toList_toArray,a0x,List.replicate,List.flatten,cP];done)) (fun _=>by(dsimp only[List.set];done)) ?_
  intro V10 hV10
  refine AM.ok ?_
  dsimp only[a0q]
  refine xN _ (fun w0 R0=> ?_)
  refine zc ?_
  refine AM.ok ?_
  dsimp only[a0q]
  refine vd ?_
  dsimp only[cA,cN]
  refine zn (zD (zr ?_))
  refine zb ?_
  refine zc (zJ (zn (xj ?_)))
  refine AQ.g ?_
  refine yf 0 [2] ?_
  refine AQ.u ?_
  try dsimp only[List.map,List.eraseIdx,cA,cN]
  refine vz rfl rfl nS (⟨b0u (by rw[hre];simp only[cH,cL];omega) (by rw[hre];simp[a0a]),rfl⟩)
 rw[if_pos (List.eq_nil_of_length_eq_zero (by omega)),cP]at hre
 refine y6 (zn (zD (zr ?_)))
 refine zb ?_
 refine zc (zJ (zn (xj ?_)))
 refine AQ.g ?_
 refine yf 0 [2] ?_
 refine AQ.u ?_
 try dsimp only[List.map,List.eraseIdx,cA,cN]
 refine vz rfl rfl nS (⟨by rw[hre];rfl,rfl⟩)
theorem o0v (m:Msg)(h:OkM m):Sp Tryz.prog 165 [b0c m] [] (Is (roB (raw m))):=by
 have hlen:=fun k=>i0W h k
 obtain⟨⟨a1,a2,a3,a4,a5⟩,⟨a6,a7,a8,a9⟩,a10, -, -,a11⟩:=h
 refine yX Tryz.func165 _ Tryz.ntmps165 (fun w0 R0=> ?_)
 have hd0a:(b0C m 0).length=4+m.tok.length:=by simp[b0C,g0t,h0m];omega
 have hd0b:a0a (b0C m 0)= .val (.int .u8 ((u8 (64+16*m.ty+m.tok.length)).toNat:Int)):: .val (.int .u8 ((u8 m.code).toNat:Int)):: .val (.int .u8 ((u8 (m.id/256)).toNat:Int)):: .val (.int .u8 ((u8 m.id).toNat:Int))::a0a m.tok:=by
  simp only[b0C,g0t,cZ,h0m,cP,a0U]
  simp[a0a]
 refine zD (zr ?_)
 refine yo ?_
 intro B1
 refine zc (zJ (zn (zD (zr ?_))))
 refine zq ?_
 refine zv ?_
 refine wF ?_
 refine zB ?_
 refine zq ?_
 refine zv ?_
 refine zX ?_
 refine zB ?_
 refine xg ?_
 refine zq ?_
 refine zv ?_
 refine xg ?_
 refine zq ?_
 refine zv ?_
 refine vg ?_
 refine xg ?_
 refine zq ?_
 refine zv ?_
 refine xg ?_
 refine zR ?_
 intro B2
 refine AO.g ?_
 refine xT B2 4 4 0 rfl rfl rfl (Nat.le_refl _) ?_
 refine AO.u ?_
 dsimp only[List.set]
 refine zc (zJ (zn (zD (zr ?_))))
 refine zb ?_
 refine zq ?_
 refine zp ?_
 refine zF 0 ?_
 intro V3 hV3
 refine zc (zJ (zn (zD (zr ?_))))
 refine zc (zJ (zn (zD (zD (zr ?_)))))
 refine zq ?_
 refine zp ?_
 refine zX ?_
 refine zb (zJ (zn (xo ?_)))
 refine zi [(1,_),(36,_),(37,_)] (fun nn E H=> ∃(k:Nat) (V:Value),(k≤m.opts.length)∧(V.oneCell'=true)∧nn=m.opts.length-k∧E= [(3,.val V),(4,.val (.int .i64 (a0R 0 (m.opts.take k)))),(38,.val (.int .i64 (k:Int)))]∧H= [.row V 5 1 (b0C m k).length (a0a (b0C m k)),.blk B1 29 6 [.val (.int .i64 m.ty),.val (.int .i64 m.code),.val (.int .i64 m.id),roB m.tok,roO m.opts,roB m.pay]]) _ (⟨0,V3,by omega,hV3,rfl,rfl,by rw[hd0b,hd0a]⟩) ?_
 rintro nn E H ⟨k,V,h1,hV,rfl,rfl,rfl⟩
 dsimp only[cA,cN]
 have hl0:=hlen k
 refine zD (zr ?_)
 refine zT (zJ (zn (zD ?_)))
 refine yt (fun h3=> ?_) (fun h3=> ?_)<;>(try simp only[vT]at h3)
 ·have hk:k<m.opts.length:=by omega
  have hl1:=hlen (k+1)
  have ho:=d0B a10 hk
  have hla:=e0v (c0l a10 k) (by omega)
  have hd1:=c0v ((oat m.opts k).num-a0R 0 (m.opts.take k)) (by omega)
  have hq1:=c0v ((oat m.opts k).val.length:Int) (by omega)
  have hd2:=f0d ((oat m.opts k).num-a0R 0 (m.opts.take k))
  have hq2:=f0d ((oat m.opts k).val.length:Int)
  have hdu:=a0I (x:=(ext ((oat m.opts k).num-a0R 0 (m.opts.take k))).1) (by omega)
  have hqu:=a0I (x:=(ext ((oat m.opts k).val.length:Int)).1) (by omega)
  have hxu:=a0I (x:=16*(ext ((oat m.opts k).num-a0R 0 (m.opts.take k))).1+(ext ((oat m.opts k).val.length:Int)).1) (by omega)
  have hlast:a0R 0 (m.opts.take (k+1))=(oat m.opts k).num:=by rw[a0i Opt.none hk,b0r]
  have hsc:a0a (b0C m (k+1))=a0a (b0C m k)++[.val (.int .u8 ((u8 (16*(ext ((oat m.opts k).num-a0R 0 (m.opts.take k))).1+(ext ((oat m.opts k).val.length:Int)).1)).toNat:Int))]++a0a (ext ((oat m.opts k).num-a0R 0 (m.opts.take k))).2++a0a (ext ((oat m.opts k).val.length:Int)).2++a0a (oat m.opts k).val:=by
   rw[d0G hk,hdr]
   simp only[a0U,List.append_assoc,cA,a0a,List.map_cons,List.map_nil,cN,List.map_append]
  have hsl:(b0C m (k+1)).length=(b0C m k).length+1+(ext ((oat m.opts k).num-a0R 0 (m.opts.take k))).2.length+(ext ((oat m.opts k).val.length:Int)).2.length+(oat m.opts k).val.length:=by
   rw[d0G hk,hdr]
   simp only[cH,cL];omega
  refine y6 (zn (zD (xo (zD (zr ?_)))))
  refine ye ?_
  refine y3 ?_
  refine zd ?_
  intro B4
  refine za 0 (zJ (zn (zD (zr ?_))))
  refine zq ?_
  refine zv ?_
  refine zb ?_
  refine yN ?_
  refine vO (xM rfl Tryz.func183 rfl rfl rfl (g0y _ ⟨by omega,by omega⟩)) ?_
  refine zb ?_
  refine zK ?_
  refine zK ?_
  refine zc ?_
  refine zc (zJ (zn (zD (zr ?_))))
  refine zq ?_
  refine zv ?_
  refine zX ?_
  refine vO (xM rfl Tryz.func183 rfl rfl rfl (g0y _ ⟨by omega,by omega⟩)) ?_
  refine zb ?_
  refine zK ?_
  refine zK ?_
  refine zc ?_
  refine zc (zJ (zn (zD ?_)))
  refine AW.regionM [(0,false),(1,false),(2,false),(3,false),(4,false),(5,false),(6,false),(8,false),(10,false),(12,false),(13,false),(7,true),(9,true),(11,true),(14,true),(15,true)] (by kernel_rfl) (by kernel_rfl) (by exact(by exact c0S 3 1 rfl rfl a0g)) ?_
  dsimp only[List.eraseIdx]
  refine yW ?_
  refine yW ?_
  refine vQ rfl xt ?_
  refine yW ?_
  refine vQ rfl zG ?_
  refine vQ rfl (O.conv rfl rfl d0m) ?_
  refine xk ?_
  refine yW ?_
  refine yW ?_
  refine y1 ?_
  refine wi ?_
  refine xN _ (fun w0 R0=> ?_)
  refine zy 0 ?_
  intro V5 hV5
  refine AM.ok ?_
  dsimp only[a0q]
  refine xN _ (fun w0 R0=> ?_)
  refine zF 0 ?_
  intro V6 hV6
  refine AM.ok ?_
  dsimp only[a0q]
  refine xN _ (fun w0 R0=> ?_)
  refine zF 0 ?_
  intro V7 hV7
  refine AM.ok ?_
  dsimp only[a0q]
  refine xN _ (fun w0 R0=> ?_)
  refine zF 0 ?_
  intro V8 hV8
  refine AM.ok ?_
  dsimp only[a0q]
  refine xN _ (fun w0 R0=> ?_)
  refine zc ?_
  refine AM.ok ?_
  dsimp only[a0q]
  refine vd ?_
  dsimp only[cA,cN]
  refine zn (zr ?_)
  refine zq ?_
  refine zp ?_
  refine zc (zJ (xE (zn (zr ?_))))
  refine zB ?_
  refine zb (zJ ?_)
  refine xG _ _ _ (by omega) (⟨k+1,_,by omega,‹_›,rfl,by rw[hlast],by rw[hsc,hsl]⟩)
 obtain rfl:k=m.opts.length:=by omega
 have hre:raw m=b0C m m.opts.length++(if m.pay= []then []else 255::m.pay):=o0w m
 refine wj ?_
 refine x8 ?_
 refine wd ?_
 refine xD (zn (zD (zD (zr ?_))))
 refine zq ?_
 refine zp ?_
 refine zX ?_
 refine yZ (zJ (zn ?_))
 refine yt (fun h5=> ?_) (fun h5=> ?_)<;>(try simp only[vT]at h5)
 ·rw[if_neg (fun e=>by rw[e]at h5;simp at h5)]at hre
  refine AW.regionM [(0,false),(1,false),(3,false),(4,false),(2,true),(5,true),(6,true)] (by kernel_rfl) (by kernel_rfl) (by exact(by exact c0S 3 0 rfl rfl a0g)) ?_
  dsimp only[List.eraseIdx]
  refine yW ?_
  refine xk ?_
  refine y1 ?_
  refine wi ?_
  refine xN _ (fun w0 R0=> ?_)
  refine zy 0 ?_
  intro V9 hV9
  refine AM.ok ?_
  dsimp only[a0q]
  refine xN _ (fun w0 R0=> ?_)
  refine AO.append' (i:=0) rfl rfl rfl rfl (by rfl) (by rfl) rfl rfl rfl (by exact SrcA.ro TyD.ax (by(simp;done)) (lB rfl)) (by(simp[AV.cells,AV.one, *];done)) (by(unfold maxLen;omega)) (by omega) (by(dsimp only[List.set,List.append,cA,cN,a0w,a0v,a0y,a0e,a0A,AV.cells,List.map,List.map_cons,List.map_nil,List.take,List.drop,Nat.zero_add,Nat.add_zero,Nat.reduceAdd,Nat.reduceMul,Nat.zero_mul,Value.cells,List.toList_toArray,a0x,List.replicate,List.flatten,cP];done)) (fun _=>by(dsimp only[List.set];done)) ?_
  intro V10 hV10
  refine AM.ok ?_
  dsimp only[a0q]
  refine xN _ (fun w0 R0=> ?_)
  refine zc ?_
  refine AM.ok ?_
  dsimp only[a0q]
  refine vd ?_
  dsimp only[cA,cN]
  refine zn (zD (zr ?_))
  refine zb ?_
  refine zc (zJ (zn (xj ?_)))
  refine AQ.g ?_
  refine yf 0 [2] ?_
  refine AQ.u ?_
  try dsimp only[List.map,List.eraseIdx,cA,cN]
  refine vz rfl rfl nS (⟨b0u (by rw[hre];simp only[cH,cL];omega) (by rw[hre];simp[a0a]),rfl⟩)
 rw[if_pos (List.eq_nil_of_length_eq_zero (by omega)),cP]at hre
 refine y6 (zn (zD (zr ?_)))
 refine zb ?_
 refine zc (zJ (zn (xj ?_)))
 refine AQ.g ?_
 refine yf 0 [2] ?_
 refine AQ.u ?_
 try dsimp only[List.map,List.eraseIdx,cA,cN]
 refine vz rfl rfl nS (⟨by rw[hre];rfl,rfl⟩)
def e0A (m:Msg):List UInt8×Int:=if ValM m then(raw m,0)else([],1)
theorem h0x {m:Msg}(h:ValM m):e0A m=(raw m,0):=if_pos h
theorem h0y {m:Msg}(h: ¬ValM m):e0A m=([],1):=if_neg h
theorem p0r (m:Msg):Sp Tryz.prog 119 [b0c m] [] (Is (.tup [roB (e0A m).1,.val (.int .i64 (e0A m).2)])):=by
 refine yX Tryz.func119 _ Tryz.ntmps119 (fun w0 R0=> ?_)
 refine zD (zr ?_)
 refine yo ?_
 intro B1
 refine zc ?_
 refine zc (zJ (zn (zD (zD (zr ?_)))))
 refine y8 ?_
 refine vO (xM rfl Tryz.func162 rfl rfl rfl (l0i m)) ?_
 refine xu (zJ (zn ?_))
 refine yt (fun h=> ?_) (fun h=> ?_)<;>(try simp only[vT]at h)
 ·have e:e0A m=([],1):=h0y fun hv=>h hv.1
  refine zD (zr ?_)
  refine zc ?_
  refine zc (zJ (zn (xj (xx ?_))))
  refine wa yV yv (⟨congrArg (fun z:List UInt8×Int=>AV.tup [roB z.1,.val (.int .i64 z.2)]) e.symm,rfl⟩)
 have hm:OkM m:=h
 have hl:=o0u hm
 refine y6 (zn (zD (zr ?_)))
 refine y8 ?_
 refine vO (xM rfl Tryz.func163 rfl rfl rfl (j0y m hm)) ?_
 refine zc (zJ (zn (zD (zD (zr ?_)))))
 refine zb ?_
 refine zX ?_
 refine yZ (zJ (zn ?_))
 refine yt (fun h2=> ?_) (fun h2=> ?_)<;>(try simp only[vT]at h2)
 ·have e:e0A m=([],1):=h0y fun hv=>by have:=hv.2;omega
  refine zD (zr ?_)
  refine zc ?_
  refine zc (zJ (zn (xj (xx ?_))))
  refine wa yV yv (⟨congrArg (fun z:List UInt8×Int=>AV.tup [roB z.1,.val (.int .i64 z.2)]) e.symm,rfl⟩)
 have e:e0A m=(raw m,0):=h0x ⟨hm,by omega⟩
 refine y6 (zn (zD (zr ?_)))
 refine zb ?_
 refine zc ?_
 refine zc (zJ (zn (xj ?_)))
 refine AQ.ret2 rfl rfl rfl nS (⟨congrArg (fun z:List UInt8×Int=>AV.tup [roB z.1,.val (.int .i64 z.2)]) e.symm,rfl⟩)
theorem u0g {c:Int}(h:0≤c):c.tdiv 32=c/32:=Int.tdiv_eq_ediv_of_nonneg h
theorem rvalid_fn (m:Msg):Sp Tryz.prog 164 [b0c m] [] (Is (.val (.bool (decide (ValM m))))):=by
 obtain⟨ty,code,id,tok,opts,pay⟩:=m
 refine yX Tryz.func164 _ Tryz.ntmps164 (fun w0 R0=> ?_)
 refine zD (zr ?_)
 refine yo ?_
 intro B1
 refine zc (zJ (zn (zD (zD (zr ?_)))))
 refine zq ?_
 refine zv ?_
 refine zT ?_
 refine zb ?_
 refine zN ?_
 refine zw 11 ?_
 refine yB 12 ?_
 refine zI ?_
 refine zb ?_
 refine zN ?_
 refine zw 16 ?_
 refine AO.opG rfl rfl rfl (fun hp=>ve 17 rfl (by exact hp) yy) ?_
 refine zI ?_
 refine zb ?_
 refine zN ?_
 refine zw 21 ?_
 refine yB 22 ?_
 refine zI ?_
 refine zb ?_
 refine zN ?_
 refine zw 26 ?_
 refine AO.opG rfl rfl rfl (fun hp=>ve 27 rfl (by exact hp) yy) ?_
 refine zI ?_
 refine zb ?_
 refine zN ?_
 refine zw 31 ?_
 refine yB 32 ?_
 refine zI ?_
 refine zb ?_
 refine zN ?_
 refine zw 36 ?_
 refine yb 37 ?_
 refine yB 38 ?_
 refine zI ?_
 refine zb ?_
 refine zN ?_
 refine zw 42 ?_
 refine yb 43 ?_
 refine yB 44 ?_
 refine zI ?_
 refine zb ?_
 refine zN ?_
 refine zw 48 ?_
 refine yb 49 ?_
 refine yB 50 ?_
 refine zI (zJ (zn ?_))
 refine yt (fun h=> ?_) (fun h=> ?_)<;>(try simp only[vT]at h)
 ·have e:decide (ValM ⟨ty,code,id,tok,opts,pay⟩)=false:=by
   refine decide_eq_false fun hk=> ?_
   obtain⟨⟨⟨a1,a2,a3,a4,a5⟩,⟨b1,b2,b3,b4⟩, -, -, -,b5⟩, -⟩:=hk
   simp only at*
   omega
  refine zD (zr ?_)
  refine zc (zJ (zn (xj (xx ?_))))
  refine vz rfl rfl nS (⟨congrArg (fun z=>AV.val (.bool z)) e.symm,rfl⟩)
 have hq:IntKind.i64.wrap (code.tdiv 32)=code/32:=by rw[u0g (by omega),e0J (by omega)]
 refine y6 (zn (zD (zr ?_)))
 refine zq ?_
 refine zv ?_
 refine vO (O.quo rfl rfl rfl (by omega) (by rfl)) ?_
 refine zc (zJ (zn (zD (zD (zr ?_)))))
 refine zb ?_
 refine y2 ?_
 refine zb ?_
 refine yC ?_
 refine xW 59 ?_
 refine zW ?_
 refine zb ?_
 refine yC ?_
 refine xW 63 ?_
 refine zW ?_
 refine zb ?_
 refine yC ?_
 refine xW 67 ?_
 refine zW (zJ (zn ?_))
 refine yt (fun h2=> ?_) (fun h2=> ?_)<;>(try simp only[vT]at h2)
 ·have e:decide (ValM ⟨ty,code,id,tok,opts,pay⟩)=false:=by
   refine decide_eq_false fun hk=> ?_
   obtain⟨⟨⟨a1,a2,a3,a4,a5⟩, -⟩, -⟩:=hk
   simp only[i0D]at*
   rw[hq]at h2
   omega
  refine zD (zr ?_)
  refine zc (zJ (zn (xj (xx ?_))))
  refine vz rfl rfl nS (⟨congrArg (fun z=>AV.val (.bool z)) e.symm,rfl⟩)
 refine y6 (zn (zD (zr ?_)))
 refine zc (zJ (zn (zD (zD (zr ?_)))))
 refine zq ?_
 refine zv ?_
 refine zX ?_
 refine zb (zJ (zn (xo ?_)))
 refine zi [(1,_),(71,_),(72,_)] (fun nn E H=> ∃(k:Nat),(k≤opts.length)∧(AscO 0 (opts.take k))∧nn=opts.length-k∧E= [(4,.val (.int .i64 (a0R 0 (opts.take k)))),(73,.val (.int .i64 (k:Int)))]∧H= [.blk B1 29 6 [.val (.int .i64 ty),.val (.int .i64 code),.val (.int .i64 id),roB tok,roO opts,roB pay]]) _ (⟨0,by omega,trivial,rfl,rfl,rfl⟩) ?_
 rintro nn E H ⟨k,h1,ha,rfl,rfl,rfl⟩
 dsimp only[cA,cN]
 refine zD (zr ?_)
 refine zT (zJ (zn (zD ?_)))
 refine yt (fun h3=> ?_) (fun h3=> ?_)<;>(try simp only[vT]at h3)
 ·have hk:k<opts.length:=by omega
  refine y6 (zn (zD (xo (zD (zr ?_)))))
  refine ye ?_
  refine y3 ?_
  refine zd ?_
  intro B2
  refine za 0 (zJ (zn (zD (zD (zr ?_)))))
  refine zq ?_
  refine zv ?_
  refine zb ?_
  refine zT ?_
  refine zb ?_
  refine zN ?_
  refine zw 82 ?_
  refine yB 83 ?_
  refine zI ?_
  refine zb ?_
  refine zN ?_
  refine zw 87 ?_
  refine yb 88 ?_
  refine yB 89 ?_
  refine zI (zJ (zn ?_))
  refine yt (fun h4=> ?_) (fun h4=> ?_)<;>(try simp only[vT]at h4)
  ·have e:decide (ValM ⟨ty,code,id,tok,opts,pay⟩)=false:=by
    refine decide_eq_false fun hk'=> ?_
    obtain⟨⟨-, -,a1, -⟩, -⟩:=hk'
    have:=d0B a1 hk
    simp only at this
    omega
   refine zD (zr ?_)
   refine zc (zJ (zn (xj (xx ?_))))
   refine ww (xx ?_)
   refine AQ.loopR ?_
   refine ww (xx ?_)
   refine vz rfl rfl nS (⟨congrArg (fun z=>AV.val (.bool z)) e.symm,rfl⟩)
  have ha2:AscO 0 (opts.take (k+1)):=by
   rw[a0i Opt.none hk,e0H]
   exact⟨ha,h4.1.1,h4.1.2,h4.2⟩
  have hl2:a0R 0 (opts.take (k+1))=(oat opts k).num:=by rw[a0i Opt.none hk,b0r]
  refine y6 (zn (zr ?_))
  refine zq ?_
  refine zv ?_
  refine zc (zJ (xE (zn (zr ?_))))
  refine zB ?_
  refine zb (zJ ?_)
  refine zL _ _ _ (by omega) (⟨k+1,by omega,ha2,rfl,by rw[hl2],rfl⟩)
 obtain rfl:k=opts.length:=by omega
 rw[List.take_length]at ha
 have hw:IntKind.i64.wrap ((tok.length:Int)+opts.length+pay.length)=(tok.length:Int)+opts.length+pay.length:=e0J (by omega)
 refine wj ?_
 refine x8 ?_
 refine wd ?_
 refine xD (zn (zD (zD (zr ?_))))
 refine zq ?_
 refine zv ?_
 refine z8 ?_
 refine zb ?_
 refine zN ?_
 refine zw 99 ?_
 refine yb 100 ?_
 refine zN ?_
 refine zw 102 ?_
 refine yb 103 ?_
 refine AO.opG rfl rfl rfl (fun hp=>ve 101 rfl (by exact hp) (ve 104 rfl (by exact hp) zG)) ?_
 refine zN ?_
 refine zw 106 ?_
 refine yb 107 ?_
 refine AO.opG rfl rfl rfl (fun hp=>ve 105 rfl (by exact hp) (ve 108 rfl (by exact hp) zG)) ?_
 refine yB 109 ?_
 refine zW ?_
 refine zb ?_
 refine zN ?_
 refine zw 113 ?_
 refine xe 114 ?_
 refine wQ 115 ?_
 refine zN ?_
 refine zw 117 ?_
 refine xW 118 ?_
 refine va 116 ?_
 refine zI (zJ (zn ?_))
 refine yt (fun h5=> ?_) (fun h5=> ?_)<;>(try simp only[vT]at h5)
 ·have e:decide (ValM ⟨ty,code,id,tok,opts,pay⟩)=false:=by
   refine decide_eq_false fun hk'=> ?_
   obtain⟨⟨-, -, -,a1,a3,a2⟩, -⟩:=hk'
   simp only at a1 a2 a3
   omega
  refine zD (zr ?_)
  refine zc (zJ (zn (xj (xx ?_))))
  refine vz rfl rfl nS (⟨congrArg (fun z=>AV.val (.bool z)) e.symm,rfl⟩)
 have hm:OkM ⟨ty,code,id,tok,opts,pay⟩:=by
  refine⟨⟨by simp only;omega,by simp only;omega,by simp only;omega,by simp only;omega,?_⟩,⟨by simp only;omega,by simp only;omega,by simp only;omega,by simp only;omega⟩,ha,?_,?_,by simp only;omega⟩
  ·rw[hq]at h2
   unfold i0D;simp only;omega
  ·simp only;omega
  simp only;omega
 have hl:=o0u hm
 refine y6 (zn (zD (zr ?_)))
 refine zC ?_
 refine vO (xM rfl Tryz.func165 rfl rfl rfl (o0v ⟨ty,code,id,tok,opts,pay⟩ hm)) ?_
 refine zX ?_
 refine vO wI ?_
 refine zc (zJ (zn (xj ?_)))
 have e:decide (ValM ⟨ty,code,id,tok,opts,pay⟩)=decide (((raw ⟨ty,code,id,tok,opts,pay⟩).length:Int)≤4096):=g0H (by simp[ValM,hm])
 refine vz rfl rfl nS (⟨congrArg (fun z=>AV.val (.bool z)) e.symm,rfl⟩)
theorem k0m (m:Msg):Sp Tryz.prog 120 [b0c m] [] (Is (.tup [roB (e0A m).1,.val (.int .i64 (e0A m).2)])):=by
 refine yX Tryz.func120 _ Tryz.ntmps120 (fun w0 R0=> ?_)
 refine zD (zr ?_)
 refine yo ?_
 intro B1
 refine zc ?_
 refine zc (zJ (zn (zD (zD (zr ?_)))))
 refine zC ?_
 refine vO (xM rfl Tryz.func164 rfl rfl rfl (rvalid_fn m)) ?_
 refine xu (zJ (zn ?_))
 refine yt (fun h=> ?_) (fun h=> ?_)<;>(try simp only[vT]at h)
 ·have e:e0A m=([],1):=h0y h
  refine zD (zr ?_)
  refine zc ?_
  refine zc (zJ (zn (xj (xx ?_))))
  refine wa yV yv (⟨congrArg (fun z:List UInt8×Int=>AV.tup [roB z.1,.val (.int .i64 z.2)]) e.symm,rfl⟩)
 have hm:OkM m:=h.1
 have e:e0A m=(raw m,0):=h0x h
 refine y6 (zn (zD (zr ?_)))
 refine zC ?_
 refine vO (xM rfl Tryz.func165 rfl rfl rfl (o0v m hm)) ?_
 refine zc ?_
 refine zc (zJ (zn (xj ?_)))
 refine AQ.ret2 rfl rfl rfl nS (⟨congrArg (fun z:List UInt8×Int=>AV.tup [roB z.1,.val (.int .i64 z.2)]) e.symm,rfl⟩)
theorem d0L (l:List UInt8)(hl:l.length≤140737488355328):Sp Tryz.prog 138 [roB l] [] (Is (roB l)):=by
 refine yX Tryz.func138 _ Tryz.ntmps138 (fun w0 R0=> ?_)
 refine zD (zr ?_)
 refine zc (zJ (zn (zD (zD (zr ?_)))))
 refine zb ?_
 refine AO.opN (O.eqlNil rfl rfl rfl) rfl rfl rfl ?_
 rintro _ _ ⟨c,rfl,rfl,hnil⟩
 simp only[cA,cN]
 refine zJ (zn ?_)
 refine yt (fun h=> ?_) (fun h=> ?_)
 ·obtain rfl:l= []:=List.eq_nil_of_length_eq_zero (hnil (by simp[h]))
  refine zD (zr ?_)
  refine zc (zJ (zn (xj (xx ?_))))
  refine AQ.g ?_
  refine G.nilRo 2 rfl ?_
  refine AQ.u ?_
  refine yM
 refine y6 (zn (zD (zr ?_)))
 refine vR (O.buildSlice0 rfl) ?_
 intro V hV
 refine zb ?_
 refine zF 0 ?_
 intro V hV
 refine zc (zJ (zn (xj ?_)))
 refine AQ.g ?_
 refine yQ 0 [2] ?_
 refine AQ.u ?_
 dsimp only[List.map,List.eraseIdx,cA,cN]
 refine vz rfl rfl nS (⟨by simp[roB],rfl⟩)
def SmM (m:Msg):Prop:=m.tok.length≤140737488355328∧m.pay.length≤140737488355328∧m.opts.length≤1000000∧ ∀o∈m.opts,o.val.length≤140737488355328
theorem SmM.at {m:Msg}(h:SmM m){k:Nat}(hk:k<m.opts.length):(oat m.opts k).val.length≤140737488355328:=h.2.2.2 _ (b0m _ hk)
theorem u0d (m:Msg)(h:SmM m):Sp Tryz.prog 38 [b0c m] [] (Is (b0c m)):=by
 have hat:=fun k=>SmM.at h (k:=k)
 obtain⟨h1,h2,h3, -⟩:=h
 refine yX Tryz.func38 _ Tryz.ntmps38 (fun w0 R0=> ?_)
 refine zD (zr ?_)
 refine yo ?_
 intro B1
 refine zd ?_
 intro B2
 refine zJ (zn (zD ?_))
 refine yA 7 ?_
 simp only[cT,cZ,cD,cO]
 refine yw ?_
 refine zM ?_
 refine we ?_
 refine yw ?_
 refine zM ?_
 refine we ?_
 refine yw ?_
 refine vb ?_
 simp only[a0h,cN,cA,cP]
 rintro _ _ ⟨V3,rfl,hV3,rfl⟩
 rintro _ _ ⟨V4,rfl,hV4,rfl⟩
 simp only[cA,cN]
 refine AO.g ?_
 refine yQ 1 [8] ?_
 refine AO.u ?_
 dsimp only[List.map,List.eraseIdx,cA,cN]
 refine AO.g ?_
 refine yQ 0 [11] ?_
 refine AO.u ?_
 dsimp only[List.map,List.eraseIdx,cA,cN]
 refine za 1 ?_
 refine zq ?_
 refine za 1 (zJ (zn (zD (zr ?_))))
 refine zc (zJ (zn (zD (zD (zr ?_)))))
 refine zq ?_
 refine zp ?_
 refine zX ?_
 refine zb (zJ (zn (xo ?_)))
 refine AW.g ?_
 refine G.nilRow 96 2 ?_
 refine AW.u ?_
 refine zi [(1,_),(2,_),(15,_),(16,_)] (fun nn E H=> ∃(k:Nat) (V:Value),(k≤m.opts.length)∧(V.oneCell'=true)∧nn=m.opts.length-k∧E= [(3,.val V),(17,.val (.int .i64 (k:Int)))]∧H= [.row V 96 2 k (a0z (m.opts.take k)),.blk B2 29 6 [.val (.int .i64 0),.val (.int .i64 0),.val (.int .i64 0),.val (.slice none 0 0),.val (.slice none 0 0),.val (.slice none 0 0)],.blk B1 29 6 [.val (.int .i64 m.ty),.val (.int .i64 m.code),.val (.int .i64 m.id),roB m.tok,roO m.opts,roB m.pay]]) _ (⟨0,_,by omega,rfl,rfl,rfl,rfl⟩) ?_
 rintro nn E H ⟨k,V,h4,hV,rfl,rfl,rfl⟩
 dsimp only[cA,cN]
 refine zD (zr ?_)
 refine zT (zJ (zn (zD ?_)))
 refine yt (fun h5=> ?_) (fun h5=> ?_)<;>(try simp only[vT]at h5)
 ·have hk:k<m.opts.length:=by omega
  have hv:=hat k hk
  have hsc:a0z (m.opts.take (k+1))=a0z (m.opts.take k)++[.val (.int .i64 (oat m.opts k).num),roB (oat m.opts k).val]:=by rw[a0i Opt.none hk,a0D]
  refine y6 (zn (zD (xo (zD (zr ?_)))))
  refine ye ?_
  refine y3 ?_
  refine zd ?_
  intro B5
  refine za 0 (zJ (zn ?_))
  refine AW.regionM [(0,false),(1,false),(2,false),(3,false),(4,false),(5,true),(6,false),(7,false),(8,true),(9,true)] (by kernel_rfl) (by kernel_rfl) (by exact(by exact c0S 3 1 rfl rfl a0g)) ?_
  dsimp only[List.eraseIdx]
  refine yW ?_
  refine y1 ?_
  refine wi ?_
  refine y1 ?_
  refine wi ?_
  refine xN _ (fun w0 R0=> ?_)
  refine yH ?_
  intro V6 hV6
  refine AO.g ?_
  refine yQ 0 [26] ?_
  refine AO.u ?_
  dsimp only[List.map,List.eraseIdx,cA,cN]
  refine AM.ok ?_
  dsimp only[a0q]
  refine xP ?_
  refine xk ?_
  refine xN _ (fun w0 R0=> ?_)
  refine zy 0 ?_
  intro V7 hV7
  refine AM.ok ?_
  dsimp only[a0q]
  refine xN _ (fun w0 R0=> ?_)
  refine zc ?_
  refine AM.ok ?_
  dsimp only[a0q]
  refine vd ?_
  dsimp only[cA,cN]
  refine xE (zn (zr ?_))
  refine zB ?_
  refine zb (zJ ?_)
  refine xG _ _ _ (by omega) (⟨k+1,_,by omega,‹_›,rfl,rfl,by rw[hsc]⟩)
 obtain rfl:k=m.opts.length:=by omega
 rw[List.take_length]
 refine AW.g ?_
 refine yf 0 [3] ?_
 refine AW.u ?_
 try dsimp only[List.map,List.eraseIdx,cA,cN]
 refine wj ?_
 refine x8 ?_
 refine wd ?_
 refine xD (zn (zD (zr ?_)))
 refine zb ?_
 refine zq ?_
 refine za 1 (zJ (zn (zD (zr ?_))))
 refine zA ?_
 refine za 0 (zJ (zn (xj ?_)))
 refine AQ.retCell rfl rfl (by repeat(exact List.Mem.head _)) (by rfl) rfl nS (⟨rfl,rfl⟩)
def bsA (vs:List (List UInt8)):List AV:=vs.map roB
def u0v (vs:List (List UInt8)):AV:= .ro false vs.length (bsA vs)
def b0I (os:List Opt)(n:Int):List (List UInt8):=(os.filter fun o=>o.num==n).map Opt.val
theorem g0P (os:List Opt)(o:Opt)(n:Int):b0I (os++[o]) n=if o.num=n then b0I os n++[o.val]else b0I os n:=by
 unfold b0I
 rw[List.filter_append,List.map_append]
 by_cases h:o.num=n<;>simp[h]
theorem f0K (vs:List (List UInt8))(v:List UInt8):bsA (vs++[v])=bsA vs++[roB v]:=by simp[bsA]
@[simp] theorem w0Y (vs:List (List UInt8)):(bsA vs).length=vs.length:=by simp[bsA]
abbrev vat (vs:List (List UInt8))(k:Nat):List UInt8:=vs.getD k []
theorem g0M {vs:List (List UInt8)}{k:Nat}(h:k<vs.length){j:Nat}(hj:j=k):(bsA vs)[j]? =some (roB (vat vs k)):=by
 subst hj;simp[bsA,h,vat]
theorem d0Q (os:List Opt)(n:Int):(b0I os n).length≤os.length:=by
 unfold b0I;rw[List.length_map];exact List.length_filter_le _ _
theorem v0V (m:Msg)(n:Int)(h3:m.opts.length≤1000000)(hat: ∀o∈m.opts,o.val.length≤140737488355328):Sp Tryz.prog 71 [b0c m,.val (.int .i64 n)] [] (Is (u0v (b0I m.opts n))):=by
 refine yX Tryz.func71 _ Tryz.ntmps71 (fun w0 R0=> ?_)
 refine zD (zr ?_)
 refine yo ?_
 intro B1
 refine zc (zJ (zn (zD (zr ?_))))
 refine zc (zJ (zn (zD (zD (zr ?_)))))
 refine zq ?_
 refine zv ?_
 refine zX ?_
 refine zb (zJ (zn (xo ?_)))
 refine AW.g ?_
 refine G.nilRow 22 1 ?_
 refine AW.u ?_
 refine zi [(1,_),(9,_),(10,_)] (fun nn E H=> ∃(k:Nat) (V:Value),(k≤m.opts.length)∧(V.oneCell'=true)∧nn=m.opts.length-k∧E= [(5,.val V),(11,.val (.int .i64 (k:Int)))]∧H= [.row V 22 1 (b0I (m.opts.take k) n).length (bsA (b0I (m.opts.take k) n)),.blk B1 29 6 [.val (.int .i64 m.ty),.val (.int .i64 m.code),.val (.int .i64 m.id),roB m.tok,roO m.opts,roB m.pay]]) _ (⟨0,_,by omega,rfl,rfl,rfl,rfl⟩) ?_
 rintro nn E H ⟨k,V,h4,hV,rfl,rfl,rfl⟩
 dsimp only[cA,cN]
 have hl:=d0Q (m.opts.take k) n
 rw[List.length_take]at hl
 refine zD (zr ?_)
 refine zT (zJ (zn (zD ?_)))
 refine yt (fun h5=> ?_) (fun h5=> ?_)<;>(try simp only[vT]at h5)
 ·have hk:k<m.opts.length:=by omega
  have hv:(oat m.opts k).val.length≤140737488355328:=hat _ (b0m Opt.none hk)
  have hsc:=g0P (m.opts.take k) (oat m.opts k) n
  rw[←a0i Opt.none hk]at hsc
  refine y6 (zn (zD (xo (zD (zr ?_)))))
  refine ye ?_
  refine y3 ?_
  refine zd ?_
  intro B2
  refine za 0 (zJ (zn (zD (zr ?_))))
  refine zq ?_
  refine zv ?_
  refine zb ?_
  refine z8 (zJ (zn ?_))
  refine yt (fun h6=> ?_) (fun h6=> ?_)<;>(try simp only[vT]at h6)
  ·rw[if_pos h6]at hsc
   refine zr ?_
   refine zb ?_
   refine zq ?_
   refine zv ?_
   refine yH ?_
   intro V3 hV3
   refine AO.g ?_
   refine yQ 0 [22] ?_
   refine AO.u ?_
   dsimp only[List.map,List.eraseIdx,cA,cN]
   refine zR ?_
   intro B4
   refine AO.g ?_
   refine yi 0 23 ?_
   refine wm 23 ?_
   refine AO.u ?_
   dsimp only[List.eraseIdx]
   refine zy 1 ?_
   intro V5 hV5
   refine zc (zJ (xE (zn (zr ?_))))
   refine zB ?_
   refine zb (zJ ?_)
   refine zL _ _ _ (by omega) (⟨k+1,_,by omega,‹_›,rfl,rfl,by rw[hsc,f0K,cH]⟩)
  rw[if_neg h6]at hsc
  refine y6 (xE (zn (zr ?_)))
  refine zB ?_
  refine zb (zJ ?_)
  refine zL _ _ _ (by omega) (⟨k+1,_,by omega,hV,rfl,rfl,by rw[hsc]⟩)
 obtain rfl:k=m.opts.length:=by omega
 rw[List.take_length]
 refine AW.g ?_
 refine yf 0 [5] ?_
 refine AW.u ?_
 try dsimp only[List.map,List.eraseIdx,cA,cN]
 refine wj ?_
 refine x8 ?_
 refine wd ?_
 refine xD (zn (zD (zr ?_)))
 refine zb ?_
 refine zc (zJ (zn (xj ?_)))
 refine yM
theorem p0P (m:Msg)(n:Int)(h3:m.opts.length≤1000000)(hat: ∀o∈m.opts,o.val.length≤140737488355328):Sp Tryz.prog 71 [b0c m,.val (.int .i64 n)] [] (b0p 22 1 (b0I m.opts n).length (bsA (b0I m.opts n))):=by
 refine yX Tryz.func71 _ Tryz.ntmps71 (fun w0 R0=> ?_)
 refine zD (zr ?_)
 refine yo ?_
 intro B1
 refine zc (zJ (zn (zD (zr ?_))))
 refine zc (zJ (zn (zD (zD (zr ?_)))))
 refine zq ?_
 refine zv ?_
 refine zX ?_
 refine zb (zJ (zn (xo ?_)))
 refine AW.g ?_
 refine G.nilRow 22 1 ?_
 refine AW.u ?_
 refine zi [(1,_),(9,_),(10,_)] (fun nn E H=> ∃(k:Nat) (V:Value),(k≤m.opts.length)∧(V.oneCell'=true)∧nn=m.opts.length-k∧E= [(5,.val V),(11,.val (.int .i64 (k:Int)))]∧H= [.row V 22 1 (b0I (m.opts.take k) n).length (bsA (b0I (m.opts.take k) n)),.blk B1 29 6 [.val (.int .i64 m.ty),.val (.int .i64 m.code),.val (.int .i64 m.id),roB m.tok,roO m.opts,roB m.pay]]) _ (⟨0,_,by omega,rfl,rfl,rfl,rfl⟩) ?_
 rintro nn E H ⟨k,V,h4,hV,rfl,rfl,rfl⟩
 dsimp only[cA,cN]
 have hl:=d0Q (m.opts.take k) n
 rw[List.length_take]at hl
 refine zD (zr ?_)
 refine zT (zJ (zn (zD ?_)))
 refine yt (fun h5=> ?_) (fun h5=> ?_)<;>(try simp only[vT]at h5)
 ·have hk:k<m.opts.length:=by omega
  have hv:(oat m.opts k).val.length≤140737488355328:=hat _ (b0m Opt.none hk)
  have hsc:=g0P (m.opts.take k) (oat m.opts k) n
  rw[←a0i Opt.none hk]at hsc
  refine y6 (zn (zD (xo (zD (zr ?_)))))
  refine ye ?_
  refine y3 ?_
  refine zd ?_
  intro B2
  refine za 0 (zJ (zn (zD (zr ?_))))
  refine zq ?_
  refine zv ?_
  refine zb ?_
  refine z8 (zJ (zn ?_))
  refine yt (fun h6=> ?_) (fun h6=> ?_)<;>(try simp only[vT]at h6)
  ·rw[if_pos h6]at hsc
   refine zr ?_
   refine zb ?_
   refine zq ?_
   refine zv ?_
   refine yH ?_
   intro V3 hV3
   refine AO.g ?_
   refine yQ 0 [22] ?_
   refine AO.u ?_
   dsimp only[List.map,List.eraseIdx,cA,cN]
   refine zR ?_
   intro B4
   refine AO.g ?_
   refine yi 0 23 ?_
   refine wm 23 ?_
   refine AO.u ?_
   dsimp only[List.eraseIdx]
   refine zy 1 ?_
   intro V5 hV5
   refine zc (zJ (xE (zn (zr ?_))))
   refine zB ?_
   refine zb (zJ ?_)
   refine zL _ _ _ (by omega) (⟨k+1,_,by omega,‹_›,rfl,rfl,by rw[hsc,f0K,cH]⟩)
  rw[if_neg h6]at hsc
  refine y6 (xE (zn (zr ?_)))
  refine zB ?_
  refine zb (zJ ?_)
  refine zL _ _ _ (by omega) (⟨k+1,_,by omega,hV,rfl,rfl,by rw[hsc]⟩)
 obtain rfl:k=m.opts.length:=by omega
 rw[List.take_length]
 refine wj ?_
 refine x8 ?_
 refine wd ?_
 refine xD (zn (zD (zr ?_)))
 refine zb ?_
 refine zc (zJ (zn (xj ?_)))
 refine vz rfl rfl ⟨_,by repeat(first|exact List.Sublist.slnil|refine List.Sublist.cons_cons _ ?_|refine List.Sublist.cons _ ?_),List.Perm.refl _⟩ (⟨_,rfl,hV,rfl⟩)
theorem s0E (m:Msg)(os:List Opt)(h1:m.tok.length≤140737488355328)(h2:m.pay.length≤140737488355328)(h3:os.length≤1000000)(hat: ∀o∈os,o.val.length≤140737488355328):
  Sp Tryz.prog 75 [b0c m,roO os] [] (Is (b0c ⟨m.ty,m.code,m.id,m.tok,os,m.pay⟩)):=by
 refine yX Tryz.func75 _ Tryz.ntmps75 (fun w0 R0=> ?_)
 refine zD (zr ?_)
 refine yo ?_
 intro B1
 refine zd ?_
 intro B2
 refine zJ (zn (zD ?_))
 refine yA 7 ?_
 simp only[cT,cZ,cD,cO]
 refine yw ?_
 refine zM ?_
 refine we ?_
 refine yw ?_
 refine zM ?_
 refine we ?_
 refine yw ?_
 refine vb ?_
 simp only[a0h,cN,cA,cP]
 rintro _ _ ⟨V3,rfl,hV3,rfl⟩
 rintro _ _ ⟨V4,rfl,hV4,rfl⟩
 simp only[cA,cN]
 refine AO.g ?_
 refine yQ 1 [10] ?_
 refine AO.u ?_
 dsimp only[List.map,List.eraseIdx,cA,cN]
 refine AO.g ?_
 refine yQ 0 [13] ?_
 refine AO.u ?_
 dsimp only[List.map,List.eraseIdx,cA,cN]
 refine za 1 ?_
 refine zq ?_
 refine za 1 (zJ (zn (zD (zr ?_))))
 refine zc (zJ (zn (zD (zD (zr ?_)))))
 refine zb ?_
 refine zX ?_
 refine zb (zJ (zn (xo ?_)))
 refine AW.g ?_
 refine G.nilRow 96 2 ?_
 refine AW.u ?_
 refine zi [(2,_),(4,_),(16,_),(17,_)] (fun nn E H=> ∃(k:Nat) (V:Value),(k≤os.length)∧(V.oneCell'=true)∧nn=os.length-k∧E= [(5,.val V),(18,.val (.int .i64 (k:Int)))]∧H= [.row V 96 2 k (a0z (os.take k)),.blk B2 29 6 [.val (.int .i64 0),.val (.int .i64 0),.val (.int .i64 0),.val (.slice none 0 0),.val (.slice none 0 0),.val (.slice none 0 0)],.blk B1 29 6 [.val (.int .i64 m.ty),.val (.int .i64 m.code),.val (.int .i64 m.id),roB m.tok,roO m.opts,roB m.pay]]) _ (⟨0,_,by omega,rfl,rfl,rfl,rfl⟩) ?_
 rintro nn E H ⟨k,V,h4,hV,rfl,rfl,rfl⟩
 dsimp only[cA,cN]
 refine zD (zr ?_)
 refine zT (zJ (zn (zD ?_)))
 refine yt (fun h5=> ?_) (fun h5=> ?_)<;>(try simp only[vT]at h5)
 ·have hk:k<os.length:=by omega
  have hv:(oat os k).val.length≤140737488355328:=hat _ (b0m Opt.none hk)
  have hsc:a0z (os.take (k+1))=a0z (os.take k)++[.val (.int .i64 (oat os k).num),roB (oat os k).val]:=by rw[a0i Opt.none hk,a0D]
  refine y6 (zn (zD (xo (zD (zr ?_)))))
  refine ye ?_
  refine y3 ?_
  refine zd ?_
  intro B5
  refine za 0 (zJ (zn ?_))
  refine AW.regionM [(0,false),(1,false),(2,false),(3,false),(4,false),(5,true),(6,false),(7,false),(8,true),(9,true)] (by kernel_rfl) (by kernel_rfl) (by exact(by exact c0S 5 1 rfl rfl a0g)) ?_
  dsimp only[List.eraseIdx]
  refine yW ?_
  refine y1 ?_
  refine wi ?_
  refine y1 ?_
  refine wi ?_
  refine xN _ (fun w0 R0=> ?_)
  refine yH ?_
  intro V6 hV6
  refine AO.g ?_
  refine yQ 0 [27] ?_
  refine AO.u ?_
  dsimp only[List.map,List.eraseIdx,cA,cN]
  refine AM.ok ?_
  dsimp only[a0q]
  refine xP ?_
  refine xk ?_
  refine xN _ (fun w0 R0=> ?_)
  refine zy 0 ?_
  intro V7 hV7
  refine AM.ok ?_
  dsimp only[a0q]
  refine xN _ (fun w0 R0=> ?_)
  refine zc ?_
  refine AM.ok ?_
  dsimp only[a0q]
  refine vd ?_
  dsimp only[cA,cN]
  refine xE (zn (zr ?_))
  refine zB ?_
  refine zb (zJ ?_)
  refine xG _ _ _ (by omega) (⟨k+1,_,by omega,‹_›,rfl,rfl,by rw[hsc]⟩)
 obtain rfl:k=os.length:=by omega
 rw[List.take_length]
 refine AW.g ?_
 refine yf 0 [5] ?_
 refine AW.u ?_
 try dsimp only[List.map,List.eraseIdx,cA,cN]
 refine wj ?_
 refine x8 ?_
 refine wd ?_
 refine xD (zn (zD (zr ?_)))
 refine zb ?_
 refine zq ?_
 refine za 1 (zJ (zn (zD (zr ?_))))
 refine zA ?_
 refine za 0 (zJ (zn (xj ?_)))
 refine AQ.retCell rfl rfl (by repeat(exact List.Mem.head _)) (by(dsimp only[List.set,cA,cN,List.take,List.drop];rfl)) rfl nS (⟨rfl,rfl⟩)
end Go.Proofs.YtojomcdjcpmnkaaGreat.By
