/-
  Texts laid together (part 2): what the statement's walk and plain law need. No condition.
-/
import Derived.Laws.MakeOwn
import Derived.Laws.IdiomStrings
import Derived.Lib.EndianBits
import Derived.Test.YtojomcdjcpmnkaaGreatZr1
set_option linter.unusedVariables false
set_option linter.unusedSimpArgs false
set_option maxRecDepth 20000
set_option maxHeartbeats 4000000
namespace Go.Proofs.YtojomcdjcpmnkaaGreat.A
open Go.RowKit L
section
variable {Γ:Cx}{P:Program}{Q:Exit→Act→World→Prop}{E:Env}{H:List HE}{N:Nat}{o:Oper}{ops:Array Oper}{rest:List Oper}
theorem a0p {H:List HE}: ∃H1,H1.Sublist H∧([]:List HE).Perm H1:=⟨[],List.nil_sublist _,.nil⟩
theorem a0m (i:Nat){e:HE}{r H:List HE}(h:H[i]? =some e)(hr: ∃H1,H1.Sublist (H.eraseIdx i)∧r.Perm H1): ∃H1,H1.Sublist H∧(e::r).Perm H1:=by
 obtain⟨H1,h1,h2⟩:=hr
 obtain⟨hlt,rfl⟩:=List.getElem?_eq_some_iff.1 h
 rw[List.eraseIdx_eq_take_drop_succ,List.sublist_append_iff]at h1
 obtain⟨A,B,rfl,hA,hB⟩:=h1
 refine⟨A++H[i]::B,?_,?_⟩
 ·have e:H=H.take i++H[i]::H.drop (i+1):=by rw[←List.drop_eq_getElem_cons hlt,List.take_append_drop]
  have h9:(A++H[i]::B).Sublist (H.take i++H[i]::H.drop (i+1)):=hA.append (hB.cons_cons _)
  rwa [←e]at h9
 ·exact(h2.cons _).trans (List.perm_middle.symm)
def f0R (K:Env)(I:Nat→Env→List HE→Prop):Nat→Env→List HE→Prop:=fun n E H=> ∃E1,I n E1 H∧E=E1++K
theorem f0I {K E1:Env}(h1: ∀p∈E1,a0j E p.1=some p.2)(h2: ∀p∈K,a0j E p.1=some p.2): ∀p∈E1++K,a0j E p.1=some p.2:=fun p hp=>by
 rcases List.mem_append.1 hp with hp|hp
 ·exact h1 p hp
 ·exact h2 p hp
theorem AW.loopK {c:Code}(K:Env)(I:Nat→Env→List HE→Prop)(n:Nat){E0:Env}{H0:List HE}(hI:I n E0 H0)(hK: ∀p∈K,a0j E p.1=some p.2)(hE: ∀p∈E0,a0j E p.1=some p.2)(hH: ∃H1,H1.Sublist H∧H0.Perm H1)
  (round: ∀n E1 H,I n E1 H→AW Γ P (d0j (f0R K I) n Γ Q) c (E1++K) H):AW Γ P Q (.loop c) E H:=
 AW.loop (f0R K I) n (E0:=E0++K) (H0:=H0) ⟨E0,hI,rfl⟩ (f0I hE hK) hH (by
  rintro n _ H ⟨E1,h,rfl⟩
  exact round n E1 H h)
theorem zh {c:Code}{E0:Env}{H0:List HE}(K:Env)(I:Nat→Env→List HE→Prop)(n:Nat)(hI:I n E0 H0)(round: ∀n E1 H,I n E1 H→AW Γ P (d0j (f0R K I) n Γ Q) c (E1++K) H)(hK: ∀p∈K,a0j E p.1=some p.2:=by repeat(first|exact a0f|refine a0h rfl ?_))(hE: ∀p∈E0,a0j E p.1=some p.2:=by repeat(first|exact a0f|refine a0h rfl ?_))(hH: ∃H1,H1.Sublist H∧H0.Perm H1:=by repeat(first|exact a0p|refine a0m 0 rfl ?_)):AW Γ P Q (.loop c) E H:=AW.loopK K I n hI hK hE hH round
theorem x3 {c:Code}{E0:Env}{H0:List HE}(K:Env)(I:Nat→Env→List HE→Prop)(n:Nat)(hI:I n E0 H0)(round: ∀n E1 H,I n E1 H→AW Γ P (d0j (f0R K I) n Γ Q) c (E1++K) H)(hK: ∀p∈K,a0j E p.1=some p.2:=by repeat(first|exact a0f|refine a0h rfl ?_))(hE: ∀p∈E0,a0j E p.1=some p.2:=by repeat(first|exact a0f|refine a0h rfl ?_))(hH: ∃H1,H1.Sublist H∧H0.Perm H1:=by repeat(exact a0p)):AW Γ P Q (.loop c) E H:=AW.loopK K I n hI hK hE hH round
theorem AQ.loopKN {K:Env}{I:Nat→Env→List HE→Prop}{n:Nat}(m:Nat)(E1:Env)(H0:List HE)(hm:m<n)(hI:I m E1 H0)(hK: ∀p∈K,a0j E p.1=some p.2)(hE: ∀p∈E1,a0j E p.1=some p.2)(hH: ∃H1,H1.Sublist H∧H0.Perm H1):
  AQ Γ (d0j (f0R K I) n Γ Q) .normal E H:=AQ.loopN m (E1++K) H0 hm ⟨E1,hI,rfl⟩ (f0I hE hK) hH
theorem zn {K:Env}{I:Nat→Env→List HE→Prop}{n:Nat}(m:Nat)(E1:Env)(H0:List HE)(hm:m<n)(hI:I m E1 H0)(hK: ∀p∈K,a0j E p.1=some p.2:=by repeat(first|exact a0f|refine a0h rfl ?_))(hE: ∀p∈E1,a0j E p.1=some p.2:=by repeat(first|exact a0f|refine a0h rfl ?_))(hH: ∃H1,H1.Sublist H∧H0.Perm H1:=by repeat(first|exact a0p|refine a0m 0 rfl ?_)):AQ Γ (d0j (f0R K I) n Γ Q) .normal E H:=AQ.loopKN m E1 H0 hm hI hK hE hH
theorem zH {K:Env}{I:Nat→Env→List HE→Prop}{n:Nat}(m:Nat)(E1:Env)(H0:List HE)(hm:m<n)(hI:I m E1 H0)(hK: ∀p∈K,a0j E p.1=some p.2:=by repeat(first|exact a0f|refine a0h rfl ?_))(hE: ∀p∈E1,a0j E p.1=some p.2:=by repeat(first|exact a0f|refine a0h rfl ?_))(hH: ∃H1,H1.Sublist H∧H0.Perm H1:=by repeat(first|exact a0p|refine a0m 1 rfl ?_)):AQ Γ (d0j (f0R K I) n Γ Q) .normal E H:=AQ.loopKN m E1 H0 hm hI hK hE hH
theorem xJ {K:Env}{I:Nat→Env→List HE→Prop}{n:Nat}(m:Nat)(E1:Env)(H0:List HE)(hm:m<n)(hI:I m E1 H0)(hK: ∀p∈K,a0j E p.1=some p.2:=by repeat(first|exact a0f|refine a0h rfl ?_))(hE: ∀p∈E1,a0j E p.1=some p.2:=by repeat(first|exact a0f|refine a0h rfl ?_))(hH: ∃H1,H1.Sublist H∧H0.Perm H1:=by repeat(exact a0p)):AQ Γ (d0j (f0R K I) n Γ Q) .normal E H:=AQ.loopKN m E1 H0 hm hI hK hE hH
theorem xU {K:Env}{I:Nat→Env→List HE→Prop}{n:Nat}(m:Nat)(E1:Env)(H0:List HE)(hm:m<n)(hI:I m E1 H0)(hK: ∀p∈K,a0j E p.1=some p.2:=by repeat(first|exact a0f|refine a0h rfl ?_))(hE: ∀p∈E1,a0j E p.1=some p.2:=by repeat(first|exact a0f|refine a0h rfl ?_))(hH: ∃H1,H1.Sublist H∧H0.Perm H1:=by repeat(first|exact a0p|refine a0m 0 rfl ?_|refine a0m 1 rfl ?_)):AQ Γ (d0j (f0R K I) n Γ Q) .normal E H:=AQ.loopKN m E1 H0 hm hI hK hE hH
theorem O.sliceLH {T:Nat}{x y y':Operand}{full:Bool}{n l h:Nat}{kk kk':IntKind}{z z':Int}{xs ys:List AV}{U sz bs:Nat}{zz:Value}[hs:TyS P T U sz bs zz](ho:o.op= .slice T x (some y) (some y') none)(hx:ev E x=some (.ro full n xs))(hy:ev E y=some (.val (.int kk z)))(hy':ev E y'=some (.val (.int kk' z')))
  (hz:z=(l:Int)) (hz':z'=(h:Int)) (hlh:l≤h) (hhn:h≤n) (hys:(xs.drop (l*sz)).take ((h-l)*sz)=ys):OpW P N o E H (Is (.ro false (h-l) ys)):=by
 subst hz
 subst hz'
 refine O.sliceR (l:=(l:Int)) (h:=(h:Int)) (m:=h-l) ho hx (by simp[d0u,hy]) (by simp[d0u,hy']) ⟨by omega,by omega,by omega⟩ (by simp) (by simpa using hys) (fun h0=> ?_)
 rw[←hys,h0];simp
theorem O.toBytes {S T U:Nat}{x:Operand}{s:ByteArray}{l:List UInt8}[hS:TyD P S .string][hT:TyD P T (.slice U)][hU:TyD P U (.int .u8)](ho:o.op= .convert S T x)(hx:ev E x=some (.val (.string s)))(hl:s.data.toList=l)(hm:l.length≤maxLen):
  OpW P N o E H (Is (roB l)):=fun R a W h0 h2 h3 ha=>by
 have hr:(execOp a.eval o).run P W= .ok (.value (.slice (some ⟨W.heap.size,0,none⟩) s.size (grownCap W s.size 0 U)))
   (W.drew.alloc (.cells (bytesRow s (grownCap W s.size 0 U)) U ((bytesRow s (grownCap W s.size 0 U)).size,(bytesRow s (grownCap W s.size 0 U)).size+1))):=by
  simp only[execOp,ho,(ha.ev hx).val_inv]
  rw[Sem.run_bind,run_bytes_of_string W S T U s hS.ax hT.ax hU.ax]
  rfl
 have hsz:s.size=l.length:=by rw[←hl];exact Array.length_toList.symm
 unfold Oper.wp
 rw[hr]
 have hE:Ext W (W.drew.alloc (.cells (bytesRow s (grownCap W s.size 0 U)) U ((bytesRow s (grownCap W s.size 0 U)).size,(bytesRow s (grownCap W s.size 0 U)).size+1))):=Mods.alloc (Mods.drew (Mods.refl _ _)) _
 have hnew:=heap_alloc_new W.drew (.cells (bytesRow s (grownCap W s.size 0 U)) U ((bytesRow s (grownCap W s.size 0 U)).size,(bytesRow s (grownCap W s.size 0 U)).size+1))
 refine⟨_,roB l,[],fun b=>R b∨b=W.heap.size,rfl,⟨rfl,rfl⟩,hE,fun _ h=> .inl h,?_,?_,fun _ he=>(by cases he),.nil⟩
 ·rintro b (hb|rfl)
  ·exact .inl hb
  ·refine .inr ⟨Nat.le_refl _,?_⟩
   have h9:W.drew.heap.size=W.heap.size:=rfl
   rw[h9]at hnew
   exact(Array.getElem?_eq_some_iff.1 hnew).1
 ·unfold roB
  rw[hsz]
  refine .ro false l.length (a0a l) W.heap.size 0 _ (fun j=> .int .u8 ((l.getD j 0).toNat:Int)) (.inr rfl) (fun j hj=> ?_) (fun j hj=> ?_) ?_ ?_ (fun h=>by cases h)
  ·have hj':j<l.length:=by simpa using hj
   have hj2:j<s.data.size:=by rw[←hl]at hj';simpa using hj'
   have hcell:(bytesRow s (grownCap W l.length 0 U))[j]? =some (.int .u8 ((l.getD j 0).toNat:Int)):=by
    rw[bytesRow_at s _ j hj2]
    subst hl
    simp[List.getD,Array.getElem?_eq_getElem hj2]
   have h9:W.drew.heap.size=W.heap.size:=rfl
   rw[h9]at hnew
   rw[Nat.zero_add]
   rw[hsz]at hnew
   simp only[World.cell?,hnew]
   simpa using hcell
  ·have hj':j<l.length:=by simpa using hj
   simp only[a0a,List.getElem_map,List.getD,List.getElem?_eq_getElem hj',Option.getD_some]
   exact .val _
  ·rw[←hsz];exact grownCap_ge ..
  ·exact grownCap_le_maxLen _ _ _ _ hm
end
section
variable {P:Program}{ops:Array Oper}{N:Nat}
theorem Oper.wp_put {o:Oper}{a:Act}{w:World}{K:Act→World→Prop}{Q:Exit→Act→World→Prop}(h:o.wp P a w K Q):o.wp P a w (fun A' W'=>K A' W'∧((∃u,A'=a.put o.dst u)∨A'.defers≠ [])) Q:=by
 unfold Oper.wp at h⊢
 cases hr:(execOp a.eval o).run P w with
 | ok n w'=>
  rw[hr]at h
  cases n with
  |value v=>exact⟨h,.inl ⟨v,rfl⟩⟩
  |skip=>exact⟨h,.inl ⟨_,rfl⟩⟩
  |defer d=>exact⟨h,.inr (by simp[Act.put];split<;>simp)⟩
  |enter f args=>
   refine Calls.mono h ?_
   intro e w'' he
   cases e with
   |returned v=>exact⟨he,.inl ⟨v,rfl⟩⟩
   |_=>exact he
  |row r args=>
   refine Rows.mono h ?_
   intro v w'' he
   exact⟨he,.inl ⟨v,rfl⟩⟩
  |_=>exact h
 |halt x w'=>
  rw[hr]at h
  cases x<;>exact h
theorem a0M {E:Env}{d:Nat}{v:AV}: ∀{ts:List Nat},d∉ts→rst ((d,v)::E) ts=rst E ts
 | [],_=>rfl
 | t::r,h=>by
  simp only[List.mem_cons,not_or]at h
  have hb:Nat.beq d t=false:=by
   cases hb:Nat.beq d t with
   |false=>rfl
   |true=>exact absurd (Nat.eq_of_beq_eq_true hb) h.1
  have hl:a0j ((d,v)::E) t=a0j E t:=by simp only[a0j,hb];rfl
  rw[rst,rst,hl,a0M h.2]
theorem a0y {E:Env}{d t:Nat}{v:AV}(h:d≠t):a0j ((d,v)::E) t=a0j E t:=by
 have hb:Nat.beq d t=false:=by
  cases hb:Nat.beq d t with
  |false=>rfl
  |true=>exact absurd (Nat.eq_of_beq_eq_true hb) h
 simp only[a0j,hb];rfl
theorem a0X {E:Env}{d:Nat}{v:AV}:a0j ((d,v)::E) d=some v:=by simp[a0j]
def QS (Γ:Cx)(d:Option Nat)(S:AV→List HE→Prop):Exit→Act→World→Prop:=fun x a W=>
 match x with
 | .normal=>a.defers= []∧ ∃v H' R',S v H'∧RelS Γ R' H' W∧ ∀t,d=some t→RelV R' W v (a.eval (.tmp t))
 |_=>False
def b0d:Option Nat→AV→Env→Env
 |some d,v,E=>(d,v)::E
 |none,_,E=>E
def AM (P:Program)(N:Nat)(ops:Array Oper)(Hs:List HE)(K:Env→List HE→Prop):List (Nat×Bool)→Env→List HE→Prop
 | [],E,H=>K E H
 |(i,true)::r,E,H=> ∃o,ops[i]? =some o∧ ∀w0 R0,AO ⟨w0,a0t H,R0,N⟩ P ops (QS ⟨w0,a0t H,R0,N⟩ o.dst (fun v H'=>AM P N ops Hs K r (b0d o.dst v E) H')) [o] (rst E (o.looksAt ops)) H
 |(i,false)::r,E,H=> ∃o d v,ops[i]? =some o∧o.dst=some d∧d<N∧OpF P N ops o (rst E (o.looksAt ops)) Hs (Is v)∧AM P N ops Hs K r ((d,v)::E) H
def c0X (ops:Array Oper)(an:List (List Nat))(i:Nat)(b:Bool)(j:Nat)(c:Bool):Bool:=
 match ops[i]?,ops[j]?with
 | some oi,some oj=>
  let waits:=oj.after.any fun e=>Region.binds .any e&&e.on==i
  let anc:=(an.getD j []).contains i
  (i !=j)&&(!b||anc)&&
  (match oj.dst with
   |some d=>if c then(!((oi.looksAt ops).contains d||oi.dst==some d))||anc else !(oi.looksAt ops).contains d&&oi.dst !=some d
   |none=>c)&&
  (match oi.dst with
   |some d=> !(oj.looksAt ops).contains d||waits
   |none=>true)
 |_,_=>false
def a0H (ops:Array Oper)(an:List (List Nat)):List (Nat×Bool)→Bool
 | []=>true
 |(i,b)::r=>(b||(match ops[i]?with|some o=>(match o.dst with|some d=> !(o.looksAt ops).contains d|none=>false)|none=>false))&&r.all (fun q=>c0X ops an i b q.1 q.2)&&a0H ops an r
def o0I (ops:Array Oper)(ord:List (Nat×Bool)):Bool:=
 ((List.range ops.size).all fun i=>(ord.map Prod.fst).contains i)&&(ord.all fun q=>decide (q.1<ops.size))&&
 ((List.range ops.size).all fun i=>(ops[i]?).all fun o=>o.after.all fun e=> !Region.binds .any e||decide (e.on<i))&&a0H ops (c0k ops.toList []) ord
theorem a0g {an:List (List Nat)}: ∀{pre r:List (Nat×Bool)},a0H ops an (pre++r)=true→a0H ops an r=true∧ ∀q∈pre,∀s∈r,c0X ops an q.1 q.2 s.1 s.2=true
 | [],r,h=>⟨h,fun q hq=>by cases hq⟩
 |(i,b)::pre,r,h=>by
  rw[cA,a0H]at h
  simp only[Bool.and_eq_true,List.all_eq_true]at h
  obtain⟨h1,h2⟩:=a0g h.2
  refine⟨h1,fun q hq s hs=> ?_⟩
  rcases List.mem_cons.1 hq with rfl|hq
  ·exact h.1.2 s (List.mem_append_right _ hs)
  ·exact h2 q hq s hs
structure PairOk (ops:Array Oper) (an:List (List Nat)) (i:Nat) (b:Bool) (oi:Oper) (j:Nat) (c:Bool) (oj:Oper):Prop where
 ne:i≠j
 main:b=true→i∈an.getD j []
 flt:c=false→ ∃d,oj.dst=some d∧d∉oi.looksAt ops∧oi.dst≠some d
 mn:c=true→ ∀d,oj.dst=some d→(d∈oi.looksAt ops∨oi.dst=some d)→i∈an.getD j []
 reads: ∀d,oi.dst=some d→d∈oj.looksAt ops→ ∃e∈oj.after,Region.binds .any e=true∧e.on=i
theorem b0b {an:List (List Nat)}{i j:Nat}{b c:Bool}{oi oj:Oper}(h:c0X ops an i b j c=true)(hi:ops[i]? =some oi)(hj:ops[j]? =some oj):PairOk ops an i b oi j c oj:=by
 unfold c0X at h
 rw[hi,hj]at h
 simp only[Bool.and_eq_true,bne_iff_ne,ne_eq]at h
 obtain⟨⟨⟨h1,h2⟩,h3⟩,h4⟩:=h
 refine⟨h1,fun hb=> ?_,fun hc=> ?_,fun hc d hd hm=> ?_,fun d hd hm=> ?_⟩
 ·subst hb;simpa using h2
 ·subst hc
  cases hd:oj.dst with
  |none=>rw[hd]at h3;cases h3
  |some d=>
   rw[hd]at h3
   simp at h3
   exact⟨d,rfl,h3.1,h3.2⟩
 ·subst hc
  rw[hd]at h3
  simp at h3
  rcases h3 with h3|h3
  ·rcases hm with hm|hm
   ·exact absurd hm h3.1
   ·exact absurd hm h3.2
  ·exact h3
 ·rw[hd]at h4
  simp only[Bool.or_eq_true,Bool.not_eq_true',List.contains_eq_mem,decide_eq_false_iff_not]at h4
  rcases h4 with h4|h4
  ·exact absurd hm h4
  ·obtain⟨x,hx,hx2⟩:=e0t h4
   simp only[Bool.and_eq_true,beq_iff_eq]at hx2
   exact⟨x,hx,hx2.1,hx2.2⟩
theorem RelS.part {Γ:Cx}{R R':Nat→Prop}{Hm Hs H':List HE}{W W':World}(hs0:RelS Γ R (Hm++Hs) W)(hs':RelS ⟨W,a0t Hm,R,N⟩ R' H' W'):RelS Γ R' (H'++Hs) W'∧ ∀b,R b→W'.heap[b]? =W.heap[b]? :=by
 have hS0: ∀b,a0t Hm b→Γ.w0.heap.size≤b∨Γ.S b:=fun b ⟨e,he,hb⟩=>(hs0.own e (List.mem_append_left _ he) b hb).1
 have hnR: ∀b,a0t Hm b→ ¬R b:=fun b ⟨e,he,hb⟩=>(hs0.own e (List.mem_append_left _ he) b hb).2
 have h1lt: ∀e∈Hs,∀b,e.foot b→b<W.heap.size:=fun e he b hb=>HE.ok_lt (hs0.ok e (List.mem_append_right _ he)) hb
 have h10: ∀e∈Hs,∀b,e.foot b→ ¬a0t Hm b:=fun e he b hb ⟨f,hf,hb'⟩=>(List.pairwise_append.1 hs0.disj).2.2 f hf e he b hb' hb
 have hR: ∀b,R b→W'.heap[b]? =W.heap[b]? :=fun b hb=>hs'.mods.block b (hs0.rlt b hb) fun hh=>hnR b hh hb
 refine⟨⟨Mods.then hs0.mods hs'.mods fun b hb hh=> ?_,hs'.rlt,fun b hb=>hs'.rsub b (hs0.rsub b hb),fun b hb=> ?_,?_,?_,?_⟩,hR⟩
 ·rcases hS0 b hh with h|h
  ·omega
  ·exact h
 ·rcases hs'.rnew b hb with h|h|h
  ·exact hs0.rnew b h
  ·exact .inr (.inl (Nat.le_trans hs0.mods.size h))
  ·exact .inr (hS0 b h)
 ·intro e he
  rcases List.mem_append.1 he with he|he
  ·exact hs'.ok e he
  ·exact HE.ok_mono hs'.rsub hR hs'.mods.size (fun b hb=>hs'.mods.block b (h1lt e he b hb) (h10 e he b hb)) (hs0.ok e (List.mem_append_right _ he))
 ·intro e he b hb
  rcases List.mem_append.1 he with he|he
  ·obtain⟨h2,h3⟩:=hs'.own e he b hb
   refine⟨?_,h3⟩
   rcases h2 with h2|h2
   ·exact .inl (Nat.le_trans hs0.mods.size h2)
   ·exact hS0 b h2
  ·refine⟨(hs0.own e (List.mem_append_right _ he) b hb).1,fun hr=> ?_⟩
   rcases hs'.rnew b hr with h|h|h
   ·exact(hs0.own e (List.mem_append_right _ he) b hb).2 h
   ·have h5:=h1lt e he b hb
    exact absurd h (by simpa using h5)
   ·exact h10 e he b hb h
 ·rw[List.pairwise_append]
  refine⟨hs'.disj,(List.pairwise_append.1 hs0.disj).2.1,fun e he f hf b hb hb'=> ?_⟩
  rcases(hs'.own e he b hb).1 with h|h
  ·have h5:=h1lt f hf b hb'
   exact absurd h (by simpa using h5)
  ·exact h10 f hf b hb' h
structure MI (P:Program) (Γ:Cx) (ops:Array Oper) (Hs:List HE) (K:Env→List HE→Prop) (ord:List (Nat×Bool)) (listed:Array Bool) (A:Act) (W:World) (pre ms:List (Nat×Bool)) (Pd:List Nat) (E:Env) (H:List HE) (R:Nat→Prop):Prop where
 size:listed.size=ops.size
 closed:b0C ops listed
 part: ∀i,i<ops.size→(listed.getD i false=false↔i∈Pd∨i∈ms.map Prod.fst)
 ord:ord=pre++ms
 pdp: ∀i∈Pd,(i,false)∈pre
 am:AM P Γ.N ops Hs K ms E H
 pend: ∀i∈Pd,∃o d v,ops[i]? =some o∧o.dst=some d∧d<Γ.N∧a0j E d=some v∧OpF P Γ.N ops o (rst E (o.looksAt ops)) Hs (Is v)
 rels:RelS Γ R (H++Hs) W
 defers:A.defers= []
 tmps:A.tmps.size=Γ.N
 act: ∀t v,a0j E t=some v→(∀i∈Pd,∀o,ops[i]? =some o→o.dst≠some t)→RelV R W v (A.eval (.tmp t))
variable {Γ:Cx}{Hs:List HE}{K:Env→List HE→Prop}{ord:List (Nat×Bool)}
theorem MI.absorb {listed:Array Bool}{A:Act}{W:World}{R:Nat→Prop}(hok:a0H ops (c0k ops.toList []) ord=true): ∀(ms pre:List (Nat×Bool)) (Pd:List Nat) (E:Env) (H:List HE),MI P Γ ops Hs K ord listed A W pre ms Pd E H R→
  ∃pre' ms' Pd' E',MI P Γ ops Hs K ord listed A W pre' ms' Pd' E' H R∧(ms'= []∨ ∃m r,ms'=(m,true)::r)
 | [],pre,Pd,E,H,h=>⟨pre,[],Pd,E,h,.inl rfl⟩
 |(m,true)::r,pre,Pd,E,H,h=>⟨pre,_,Pd,E,h,.inr ⟨m,r,rfl⟩⟩
 | (j,false)::r,pre,Pd,E,H,h=>by
  obtain⟨o,d,v,ho,hd,hN,hop,ham⟩:=h.am
  have hord:=h.ord
  have hq:=a0g (pre:=pre) (r:=(j,false)::r) (by rw[←hord];exact hok)
  have hself:d∉o.looksAt ops:=by
   have:=hq.1
   rw[a0H]at this
   simp only[Bool.and_eq_true,ho,hd,Bool.false_or]at this
   simpa using this.1.1
  have hp: ∀i∈Pd,∀oi,ops[i]? =some oi→d∉oi.looksAt ops∧oi.dst≠some d:=fun i hi oi hoi=>by
   have:=b0b (hq.2 _ (h.pdp i hi) (j,false) (List.mem_cons_self ..)) hoi ho
   obtain⟨d',h1,h2,h3⟩:=this.flt rfl
   rw[hd]at h1
   cases h1
   exact⟨h2,h3⟩
  refine MI.absorb hok r (pre++[(j,false)]) (j::Pd) ((d,v)::E) H ⟨h.size,h.closed,fun i hi=> ?_,by rw[hord];simp,fun i hi=> ?_,ham,fun i hi=> ?_,h.rels,h.defers,h.tmps,fun t x ht hpd=> ?_⟩
  ·rw[h.part i hi]
   simp only[List.map_cons,List.mem_cons]
   constructor
   ·rintro(h|h|h)
    ·exact .inl (.inr h)
    ·exact .inl (.inl h)
    ·exact .inr h
   ·rintro((h|h)|h)
    ·exact .inr (.inl h)
    ·exact .inl h
    ·exact .inr (.inr h)
  ·rcases List.mem_cons.1 hi with rfl|hi
   ·simp
   ·exact List.mem_append_left _ (h.pdp i hi)
  ·rcases List.mem_cons.1 hi with rfl|hi
   ·exact⟨o,d,v,ho,hd,hN,a0X,by rw[a0M hself];exact hop⟩
   ·obtain⟨oi,di,vi,h1,h2,h3,h4,h5⟩:=h.pend i hi
    obtain⟨h6,h7⟩:=hp i hi oi h1
    refine⟨oi,di,vi,h1,h2,h3,?_,by rw[a0M h6];exact h5⟩
    rw[a0y (fun e=>h7 (by rw[h2,e]))];exact h4
  ·have hne:d≠t:=fun e=>hpd j (List.mem_cons_self ..) o ho (by rw[hd,e])
   rw[a0y hne]at ht
   exact h.act t x ht fun i hi=>hpd i (List.mem_cons_of_mem _ hi)
theorem MI.reads {listed:Array Bool}{A:Act}{W:World}{R:Nat→Prop}{pre ms:List (Nat×Bool)}{Pd:List Nat}{E:Env}{H:List HE}(hok:a0H ops (c0k ops.toList []) ord=true)(h:MI P Γ ops Hs K ord listed A W pre ms Pd E H R)
  {i:Nat} {b:Bool} {o:Oper} (ho:ops[i]? =some o) (hdeps: ∀e∈o.after,Region.binds .any e=true→listed.getD e.on false=true) (hi:(i,b)∈pre∧i∈Pd∧b=false∨ ∃r,ms=(i,b)::r):RelA Γ.N R W (rst E (o.looksAt ops)) A:=by
 refine⟨h.defers,h.tmps,fun t v ht=> ?_⟩
 obtain⟨htl,ht⟩:=b0I ht
 refine h.act t v ht fun k hk ok hok' hdk=> ?_
 have hkp:=h.pdp k hk
 have hkf:listed.getD k false=false:=(h.part k (Array.getElem?_eq_some_iff.1 hok').1).2 (.inl hk)
 have direct:c0X ops (c0k ops.toList []) k false i b=true→False:=fun hp=>by
  obtain⟨e,he,hb,hon⟩:=(b0b hp hok' ho).reads t hdk htl
  have:=hdeps e he hb
  rw[hon,hkf]at this;cases this
 rcases hi with⟨hip,hiP,rfl⟩|⟨r,hms⟩
 ·
  obtain⟨p1,p2,hp12⟩:=List.append_of_mem hkp
  have hord:=h.ord
  rw[hp12,List.append_assoc]at hord
  rw[hp12]at hip
  rcases List.mem_append.1 hip with hip|hip
  ·
   have hq:=a0g (pre:=p1) (by rw[←hord];exact hok)
   have:=b0b (hq.2 _ hip (k,false) (List.mem_cons_self ..)) ho hok'
   obtain⟨d',h1,h2, -⟩:=this.flt rfl
   rw[hdk]at h1;cases h1
   exact h2 htl
  ·rcases List.mem_cons.1 hip with he|hip
   ·cases he
    have hq:=(a0g (pre:=p1) (by rw[←hord];exact hok)).1
    rw[cA,a0H]at hq
    simp only[Bool.and_eq_true]at hq
    obtain rfl:o=ok:=by rw[ho]at hok';exact Option.some.inj hok'
    have:=hq.1.1
    rw[ho]at this
    simp only[hdk,Bool.false_or]at this
    simp at this
    exact this htl
   ·rw[show p1++((k,false)::p2++ms)=(p1++[(k,false)])++(p2++ms) by simp]at hord
    have hq:=a0g (pre:=p1++[(k,false)]) (by rw[←hord];exact hok)
    exact direct (hq.2 (k,false) (by simp) (i,false) (List.mem_append_left _ hip))
 ·have hq:=a0g (pre:=pre) (r:=ms) (by rw[←h.ord];exact hok)
  exact direct (hq.2 _ hkp (i,b) (by rw[hms];exact List.mem_cons_self ..))
def c0v (E:Env)(H Hm Hs:List HE):Prop:=H.Perm (Hm++Hs)
theorem a0D {E:Env}{H:List HE}:c0v E H [] H:=List.Perm.refl _
theorem d0B (i:Nat){E:Env}{H Hm Hs:List HE}{e:HE}(h:H[i]? =some e)(hr:c0v E (H.eraseIdx i) Hm Hs):c0v E H (e::Hm) Hs:=(c0F h).trans (List.Perm.cons e hr)
theorem d0A (t i:Nat){E:Env}{H Hm Hs:List HE}{v:Value}{T sz n:Nat}{xs:List AV}(hl:a0j E t=some (.val v))(h:H[i]? =some (.row v T sz n xs))(hr:c0v E (H.eraseIdx i) Hm Hs):c0v E H (.row v T sz n xs::Hm) Hs:=d0B i h hr
theorem a0G (t i:Nat){E:Env}{H Hm Hs:List HE}{b o T room:Nat}{xs:List AV}(hl:a0j E t=some (.val (.pointer (some ⟨b,o,none⟩))))(h:H[i]? =some (.blk b T room xs))(hr:c0v E (H.eraseIdx i) Hm Hs):c0v E H (.blk b T room xs::Hm) Hs:=d0B i h hr
theorem AW.regionM {Q:Exit→Act→World→Prop}{E:Env}{H:List HE}{id:Nat}{l:List Oper}(ord:List (Nat×Bool)){Hm Hs:List HE}(hm:P.follows .mixedOrders=true)(hok:o0I l.toArray ord=true)(hH:c0v E H Hm Hs)
  (h:AM P Γ.N l.toArray Hs (fun E' H'=>AQ Γ Q .normal E' (H'++Hs)) ord E Hm):AW Γ P Q (.region id l.toArray true) E H:=fun R a W hs0 ha0=>by
 obtain⟨ops,hops⟩: ∃ops,ops=l.toArray:=⟨_,rfl⟩
 rw[←hops]at h hok
 simp only[o0I,Bool.and_eq_true,List.all_eq_true,List.mem_range]at hok
 obtain⟨⟨⟨hall,hlt⟩,hbk⟩,hpairs⟩:=hok
 have hback: ∀i o,ops[i]? =some o→ ∀e∈o.after,Region.binds .any e=true→e.on<i:=fun i o ho e he hb=>by
  have hi:i<ops.size:=(Array.getElem?_eq_some_iff.1 ho).1
  have:=hbk i hi
  rw[ho]at this
  simp only[Option.all_some]at this
  have:=Array.all_eq_true_iff_forall_mem.1 this e he
  simpa[hb]using this
 have main: ∀(fuel:Nat) (listed:Array Bool) (A:Act) (W:World) (pre ms:List (Nat×Bool)) (Pd:List Nat) (E:Env) (H:List HE) (R:Nat→Prop),fuel=listed.toList.count false→
   MI P Γ ops Hs (fun E' H'=>AQ Γ Q .normal E' (H'++Hs)) ord listed A W pre ms Pd E H R→(ms= []∨ ∃m r,ms=(m,true)::r)→wpAny P .any ops Q fuel listed A W:=by
  intro fuel
  induction fuel with
  | zero=>
   intro listed A W pre ms Pd E H R hc hI hhd
   have hlist: ∀i,i<ops.size→listed.getD i false=true:=by
    intro i hi
    have hi':i<listed.size:=by rw[hI.size];exact hi
    cases hb:listed.getD i false with
    |true=>rfl
    | false=>
     exfalso
     have hm:false∈listed.toList:=by
      rw[←hb];simp[Array.getD,hi']
     have:=List.count_pos_iff.2 hm
     omega
   have hin: ∀i b,(i,b)∈ord→i<ops.size:=fun i b hib=>by have:=hlt _ hib;simpa using this
   have hms:ms= []:=by
    rcases hhd with h|⟨m,r,h⟩
    ·exact h
    ·have h1:=hin m true (by rw[hI.ord,h];simp)
     have:=(hI.part m h1).2 (.inr (by rw[h];simp))
     rw[hlist m h1]at this;cases this
   have hPd:Pd= []:=by
    rw[List.eq_nil_iff_forall_not_mem]
    intro i hi
    have h1:=hin i false (by rw[hI.ord];exact List.mem_append_left _ (hI.pdp i hi))
    have:=(hI.part i h1).2 (.inl hi)
    rw[hlist i h1]at this;cases this
   subst hms
   subst hPd
   refine⟨?_,hI.am R A W hI.rels ⟨hI.defers,hI.tmps,fun t v ht=>hI.act t v ht fun i hi=>(by cases hi)⟩⟩
   rw[List.eq_nil_iff_forall_not_mem]
   intro i hi
   obtain⟨h0,o,ho,_⟩:=mem_ready.1 hi
   have hi':i<ops.size:=(Array.getElem?_eq_some_iff.1 ho).1
   have:=hlist i hi'
   rw[←b0h (by rw[hI.size];exact hi')]at this
   rw[this]at h0;cases h0
  | succ fuel ih=>
   intro listed A W pre ms Pd E H R hc hI hhd
   have hne: ∃i,i∈Region.ready .any ops listed:=by
    have hex: ∃i,i<ops.size∧listed.getD i false=false:=by
     have hpos:0<listed.toList.count false:=by omega
     obtain⟨i,hi,hf⟩:=List.getElem_of_mem (List.count_pos_iff.1 hpos)
     have hi':i<listed.size:=by simpa using hi
     exact⟨i,by rw[←hI.size];exact hi',by simpa[Array.getD,hi']using hf⟩
    obtain⟨i,⟨hi,hf⟩,hmin⟩: ∃i,(i<ops.size∧listed.getD i false=false)∧ ∀j,j<i→ ¬(j<ops.size∧listed.getD j false=false):=by
     obtain⟨i,h⟩:=hex
     exact n0q ⟨i,h⟩
    have hio:ops[i]? =some ops[i]:=by simp[hi]
    refine⟨i,mem_ready.2 ⟨by rw[b0h (by rw[hI.size];exact hi)];exact hf,_,hio,fun e he hb=> ?_⟩⟩
    have:=hback i _ hio e he hb
    cases hb2:listed.getD e.on false with
    |true=>rfl
    |false=>exact absurd ⟨by omega,hb2⟩ (hmin e.on this)
   refine⟨fun e=>(by obtain⟨i,hi⟩:=hne;rw[e]at hi;cases hi),fun i hi=> ?_⟩
   obtain⟨h0,o,ho,hdeps⟩:=mem_ready.1 hi
   have hio:i<ops.size:=(Array.getElem?_eq_some_iff.1 ho).1
   have hf:listed.getD i false=false:=by rw[←b0h (by rw[hI.size];exact hio)];exact h0
   have hil:i<listed.size:=by rw[hI.size];exact hio
   have hanc: ∀j,j∈(c0k ops.toList []).getD i []→listed.getD j false=true:=fun j hj=>d0i hI.closed hback i o ho hdeps j hj
   have hcl:=c0i hI.closed ho hil hdeps
   have hcnt:fuel=(listed.setIfInBounds i true).toList.count false:=by
    have hcs:=a0R listed.toList i (by simpa using hil) (by simpa[Array.getD,hil]using hf)
    simp only[Array.toList_setIfInBounds]
    omega
   have hgd: ∀k,k≠i→(listed.setIfInBounds i true).getD k false=listed.getD k false:=fun k hk=>getD_set_ne false (Ne.symm hk)
   have hgi:(listed.setIfInBounds i true).getD i false=true:=by simp[Array.getD,hil]
   have hsz:(listed.setIfInBounds i true).size=ops.size:=by simpa using hI.size
   rcases(hI.part i hio).1 hf with hPd|hms
   ·
    obtain⟨o',d,v,ho',hd,hN,hlk,hop⟩:=hI.pend i hPd
    obtain rfl:o=o':=by rw[ho]at ho';exact Option.some.inj ho'
    have hA:=hI.reads hpairs ho hdeps (b:=false) (.inl ⟨hI.pdp i hPd,hPd,rfl⟩)
    have hs:=hop R A W hI.rels.rlt (fun e he=>hI.rels.ok e (List.mem_append_right _ he)) (fun e he b hb=>(hI.rels.own e (List.mem_append_right _ he) b hb).2) hA
    have hnext: ∀u W',(∃v' Hn R',Is v v' Hn∧Post1 R W v' Hn u W' R')→wpAny P .any ops Q fuel (listed.setIfInBounds i true) (A.put o.dst u) W':=by
     rintro u W' ⟨v',Hn,R',⟨rfl,rfl⟩,hp⟩
     have hnm:i∉ms.map Prod.fst:=fun hm=>by
      obtain⟨⟨j,c⟩,hq,hji⟩:=List.mem_map.1 hm
      have hq2:=(a0g (pre:=pre) (r:=ms) (by rw[←hI.ord];exact hpairs)).2 _ (hI.pdp i hPd) _ hq
      simp only at hji
      subst hji
      exact(b0b hq2 ho ho).ne rfl
     refine ih _ _ _ pre ms (Pd.filter (· ≠i)) E H R' hcnt ⟨hsz,hcl,fun k hk=> ?_,hI.ord,fun k hk=>hI.pdp k (List.mem_filter.1 hk).1,hI.am,fun k hk=>hI.pend k (List.mem_filter.1 hk).1,by simpa using hI.rels.step hp,?_,?_,fun t x ht hpd=> ?_⟩ hhd
     ·by_cases hki:k=i
      ·subst hki
       rw[hgi]
       simp[hnm]
      ·rw[hgd k hki,hI.part k hk]
       simp[hki]
     ·rw[hd];exact hI.defers
     ·rw[hd];simp[Act.put,hI.tmps]
     ·rw[hd]
      by_cases hdt:d=t
      ·subst hdt
       rw[hlk]at ht
       cases ht
       rw[a0z (by rw[hI.tmps];exact hN)];exact hp.val
      ·rw[a0k hdt]
       refine(hI.act t x ht fun k hk ok hok hdk=> ?_).mono hp.sub (d0d hp.ext hI.rels.rlt)
       by_cases hki:k=i
       ·subst hki
        rw[ho]at hok
        cases hok
        rw[hd]at hdk
        cases hdk
        exact hdt rfl
       ·exact hpd k (List.mem_filter.2 ⟨hk,by simpa using hki⟩) ok hok hdk
    unfold wpOp
    rw[ho]
    unfold e0y at hs
    show if Region.wanted o (yielded ops A.tmps)=true then _ else _
    split
    ·rename_i hw
     rw[if_pos hw]at hs
     refine .inl (Oper.wp_mono ?_ (b0w hs))
     rintro A' W' ⟨u,rfl,hp⟩
     exact hnext u W' hp
    ·rename_i hw
     rw[if_neg hw]at hs
     exact hnext _ _ hs
   ·
    rcases hhd with rfl|⟨m,r,rfl⟩
    ·cases hms
    have hmlt:m<ops.size:=by have:=hlt (m,true) (by rw[hI.ord];simp);simpa using this
    have hmf:listed.getD m false=false:=(hI.part m hmlt).2 (.inr (by simp))
    have him:i=m:=by
     rcases List.mem_cons.1 hms with h|h
     ·exact h
     ·exfalso
      obtain⟨⟨j,c⟩,hq,hji⟩:=List.mem_map.1 h
      simp only at hji
      subst hji
      have h9:=(a0g (pre:=pre++[(m,true)]) (r:=r) (by have:=hI.ord;rw[List.append_assoc,List.singleton_append,←this];exact hpairs)).2 (m,true) (by simp) _ hq
      have hom:ops[m]? =some ops[m]:=by simp[hmlt]
      have:=hanc m ((b0b h9 hom ho).main rfl)
      rw[hmf]at this;cases this
    subst him
    obtain⟨o',ho',hAO⟩:=hI.am
    obtain rfl:o=o':=by rw[ho]at ho';exact Option.some.inj ho'
    have hA:=hI.reads hpairs ho hdeps (b:=true) (.inr ⟨r,rfl⟩)
    have hs:=hAO W R R A W ⟨Mods.refl _ _,hI.rels.rlt,fun _ h=>h,fun _ h=> .inl h,fun e he=>hI.rels.ok e (List.mem_append_left _ he),fun e he b hb=>⟨.inr ⟨e,he,hb⟩,(hI.rels.own e (List.mem_append_left _ he) b hb).2⟩,(List.pairwise_append.1 hI.rels.disj).1⟩ hA
    have hnext: ∀u W',QS ⟨W,a0t H,R,Γ.N⟩ o.dst (fun v H'=>AM P Γ.N ops Hs (fun E' H'=>AQ Γ Q .normal E' (H'++Hs)) r (b0d o.dst v E) H') .normal (A.put o.dst u) W'→wpAny P .any ops Q fuel (listed.setIfInBounds i true) (A.put o.dst u) W':=by
     rintro u W' ⟨hdf,v,H',R',ham,hsr,hvr⟩
     obtain⟨hrel,hRW⟩:=RelS.part hI.rels hsr
     have hpd: ∀k∈Pd,∀ok,ops[k]? =some ok→ ∀d,o.dst=some d→d∉ok.looksAt ops∧ok.dst≠some d:=fun k hk ok hok d hd=>by
      have h9:=(a0g (pre:=pre) (r:=(i,true)::r) (by rw[←hI.ord];exact hpairs)).2 _ (hI.pdp k hk) (i,true) (List.mem_cons_self ..)
      have hkf:listed.getD k false=false:=(hI.part k (Array.getElem?_eq_some_iff.1 hok).1).2 (.inl hk)
      have hno:k∉(c0k ops.toList []).getD i []:=fun hm=>by
       have:=hanc k hm
       rw[hkf]at this;cases this
      exact⟨fun hm=>hno ((b0b h9 hok ho).mn rfl d hd (.inl hm)),fun he=>hno ((b0b h9 hok ho).mn rfl d hd (.inr he))⟩
     have hnr:i∉r.map Prod.fst:=fun hm=>by
      obtain⟨⟨j,c⟩,hq,hji⟩:=List.mem_map.1 hm
      have h9:=(a0g (pre:=pre++[(i,true)]) (r:=r) (by have:=hI.ord;rw[List.append_assoc,List.singleton_append,←this];exact hpairs)).2 (i,true) (by simp) _ hq
      simp only at hji
      subst hji
      exact(b0b h9 ho ho).ne rfl
     have hnp:i∉Pd:=fun hk=>by
      have h9:=(a0g (pre:=pre) (r:=(i,true)::r) (by rw[←hI.ord];exact hpairs)).2 _ (hI.pdp i hk) (i,true) (List.mem_cons_self ..)
      exact(b0b h9 ho ho).ne rfl
     have hI':MI P Γ ops Hs (fun E' H'=>AQ Γ Q .normal E' (H'++Hs)) ord (listed.setIfInBounds i true) (A.put o.dst u) W' (pre++[(i,true)]) r Pd (b0d o.dst v E) H' R':=by
      refine⟨hsz,hcl,fun k hk=> ?_,by rw[hI.ord];simp,fun k hk=>List.mem_append_left _ (hI.pdp k hk),ham,fun k hk=> ?_,hrel,hdf,?_,fun t x ht hp=> ?_⟩
      ·by_cases hki:k=i
       ·subst hki
        rw[hgi]
        simp[hnr,hnp]
       ·rw[hgd k hki,hI.part k hk]
        simp[hki]
      ·obtain⟨ok,dk,vk,h1,h2,h3,h4,h5⟩:=hI.pend k hk
       refine⟨ok,dk,vk,h1,h2,h3,?_,?_⟩
       ·cases hd:o.dst with
        |none=>exact h4
        |some d=>rw[b0d,a0y (fun e=>(hpd k hk ok h1 d hd).2 (by rw[h2,e]))];exact h4
       ·cases hd:o.dst with
        |none=>exact h5
        |some d=>rw[b0d,a0M (hpd k hk ok h1 d hd).1];exact h5
      ·cases hd:o.dst<;>simp[Act.put,hI.tmps]
      ·cases hd:o.dst with
       |none=>
        rw[hd]at ht
        exact(hI.act t x ht hp).mono hsr.rsub hRW
       | some d=>
        rw[hd,b0d]at ht
        by_cases hdt:d=t
        ·subst hdt
         rw[a0X]at ht
         cases ht
         have:=hvr d hd
         rwa [hd]at this
        ·rw[a0y hdt]at ht
         rw[a0k hdt]
         exact(hI.act t x ht hp).mono hsr.rsub hRW
     obtain⟨pre',ms',Pd',E',hI2,hh2⟩:=hI'.absorb hpairs
     exact ih _ _ _ pre' ms' Pd' E' H' R' hcnt hI2 hh2
    unfold wpOp
    rw[ho]
    unfold wpList at hs
    show if Region.wanted o (yielded ops A.tmps)=true then _ else _
    split
    ·rename_i hw
     rw[if_pos hw]at hs
     refine .inl ?_
     rcases hs with hs|⟨-,a',w',hl⟩
     ·have hs2:o.wp P A W (wpList P ops (QS ⟨W,a0t H,R,Γ.N⟩ o.dst (fun v H'=>AM P Γ.N ops Hs (fun E' H'=>AQ Γ Q .normal E' (H'++Hs)) r (b0d o.dst v E) H')) []) NoQ:=by
       unfold Oper.wp at hs⊢
       revert hs
       cases(execOp A.eval o).run P W with
       | ok n w'=>
        cases n with
        |enter f args=>
         intro hs
         refine Calls.mono hs ?_
         intro e w'' he
         cases e with
         |returned v=>exact he
         |outgrown=>obtain⟨a',w',hl⟩:=he;exact hl.elim
         |_=>exact he.elim
        |_=>exact fun h=>h
       |halt x w'=>cases x<;>exact fun h=>h
      refine Oper.wp_mono ?_ (b0w (Oper.wp_put hs2))
      rintro A' W' ⟨hq,hA'⟩
      have hq':QS ⟨W,a0t H,R,Γ.N⟩ o.dst (fun v H'=>AM P Γ.N ops Hs (fun E' H'=>AQ Γ Q .normal E' (H'++Hs)) r (b0d o.dst v E) H') .normal A' W':=hq
      rcases hA' with⟨u,rfl⟩|hnd
      ·exact hnext u W' hq'
      ·exact absurd hq'.1 hnd
     ·exact hl.elim
    ·rename_i hw
     rw[if_neg hw]at hs
     exact hnext _ _ hs
 have hs:RelS Γ R (Hm++Hs) W.drew:=(RelS.perm ⟨hs0.mods.drew,hs0.rlt,hs0.rsub,hs0.rnew,fun e he=>HE.ok_mono (W:=W) (W':=W.drew) (fun _ h=>h) (fun _ _=>rfl) (Nat.le_refl _) (fun _ _=>rfl) (hs0.ok e he),hs0.own,hs0.disj⟩ hH.symm)
 have ha:RelA Γ.N R W.drew E a:=ha0.mono (fun _ h=>h) (fun _ _=>rfl)
 refine wp_region_any hm ?_
 rw[←hops]
 have hI:MI P Γ ops Hs (fun E' H'=>AQ Γ Q .normal E' (H'++Hs)) ord (Array.replicate ops.size false) a W.drew [] ord [] E Hm R:=by
  refine⟨by simp,fun i o hl=> ?_,fun i hi=> ?_,rfl,fun i hi=>(by cases hi),h,fun i hi=>(by cases hi),hs,ha.defers,ha.size,fun t v ht _=>ha.slots t v ht⟩
  ·exfalso
   by_cases h:i<ops.size<;>simp[Array.getD,h]at hl
  ·have:=hall i hi
   simp only[List.contains_eq_mem,cQ]at this
   simp[Array.getD,hi,this]
 obtain⟨pre',ms',Pd',E',hI2,hh2⟩:=hI.absorb hpairs
 exact main _ _ _ _ pre' ms' Pd' E' Hm R (by simp) hI2 hh2
theorem AM.op {i d:Nat}{r:List (Nat×Bool)}{E:Env}{H:List HE}{o:Oper}{v:AV}(ho:ops[i]? =some o)(h:OpW P N o (rst E (o.looksAt ops)) Hs (Is v))(hw:a0d ops (rst E (o.looksAt ops)) o=some true)(hd:o.dst=some d)(hN:Nat.ble (d+1) N=true)(k:AM P N ops Hs K r ((d,v)::E) H):
  AM P N ops Hs K ((i,false)::r) E H:=⟨o,d,v,ho,hd,lB hN,.run hw h,k⟩
theorem yL {i d:Nat}{r:List (Nat×Bool)}{E:Env}{H:List HE}{o:Oper}{v:AV}(k:AM P N ops Hs K r ((d,v)::E) H)(ho:ops[i]? =some o:=by exact rfl)(h:OpW P N o (rst E (o.looksAt ops)) Hs (Is v):=by exact(O.loadK rfl rfl mM (by(dsimp only[List.set,cA,cN,List.take,List.drop];done)) (by rfl)))(hw:a0d ops (rst E (o.looksAt ops)) o=some true:=by exact rfl)(hd:o.dst=some d:=by exact rfl)(hN:Nat.ble (d+1) N=true:=by exact rfl):AM P N ops Hs K ((i,false)::r) E H:=AM.op ho h hw hd hN k
theorem xg {i d:Nat}{r:List (Nat×Bool)}{E:Env}{H:List HE}{o:Oper}{v:AV}(k:AM P N ops Hs K r ((d,v)::E) H)(ho:ops[i]? =some o:=by exact rfl)(h:OpW P N o (rst E (o.looksAt ops)) Hs (Is v):=by exact(O.move rfl rfl))(hw:a0d ops (rst E (o.looksAt ops)) o=some true:=by exact rfl)(hd:o.dst=some d:=by exact rfl)(hN:Nat.ble (d+1) N=true:=by exact rfl):AM P N ops Hs K ((i,false)::r) E H:=AM.op ho h hw hd hN k
theorem xi {i d:Nat}{r:List (Nat×Bool)}{E:Env}{H:List HE}{o:Oper}{v:AV}(k:AM P N ops Hs K r ((d,v)::E) H)(ho:ops[i]? =some o:=by exact rfl)(h:OpW P N o (rst E (o.looksAt ops)) Hs (Is v):=by exact(O.loadK rfl rfl (by repeat(exact List.Mem.head _)) (by(dsimp only[List.set,cA,cN,List.take,List.drop];done)) (by rfl)))(hw:a0d ops (rst E (o.looksAt ops)) o=some true:=by exact rfl)(hd:o.dst=some d:=by exact rfl)(hN:Nat.ble (d+1) N=true:=by exact rfl):AM P N ops Hs K ((i,false)::r) E H:=AM.op ho h hw hd hN k
theorem xZ {i d:Nat}{r:List (Nat×Bool)}{E:Env}{H:List HE}{o:Oper}{v:AV}(k:AM P N ops Hs K r ((d,v)::E) H)(ho:ops[i]? =some o:=by exact rfl)(h:OpW P N o (rst E (o.looksAt ops)) Hs (Is v):=by exact(OpW.frz (O.buildSlice rfl rfl rfl (by rfl) (by rfl) (by rfl) (by rfl)) (by(unfold maxLen;omega))))(hw:a0d ops (rst E (o.looksAt ops)) o=some true:=by exact rfl)(hd:o.dst=some d:=by exact rfl)(hN:Nat.ble (d+1) N=true:=by exact rfl):AM P N ops Hs K ((i,false)::r) E H:=AM.op ho h hw hd hN k
theorem wn {i d:Nat}{r:List (Nat×Bool)}{E:Env}{H:List HE}{o:Oper}{v:AV}(ho:ops[i]? =some o)(h:OpW P N o (rst E (o.looksAt ops)) Hs (Is v))(k:AM P N ops Hs K r ((d,v)::E) H)(hw:a0d ops (rst E (o.looksAt ops)) o=some true:=by exact rfl)(hd:o.dst=some d:=by exact rfl)(hN:Nat.ble (d+1) N=true:=by exact rfl):AM P N ops Hs K ((i,false)::r) E H:=AM.op ho h hw hd hN k
theorem AM.opG {i d:Nat}{r:List (Nat×Bool)}{E:Env}{H:List HE}{o:Oper}{c:Bool}{v:AV}(ho:ops[i]? =some o)(hw:a0B ops (rst E (o.looksAt ops)) o=some c)(hd:o.dst=some d)(hN:Nat.ble (d+1) N=true)(h:c=true→OpW P N o (rst E (o.looksAt ops)) Hs (Is v))(k:AM P N ops Hs K r ((d,.opt c v)::E) H):
  AM P N ops Hs K ((i,false)::r) E H:=⟨o,d,_,ho,hd,lB hN,.opt hw h,k⟩
theorem AM.no {i d:Nat}{r:List (Nat×Bool)}{E:Env}{H:List HE}{o:Oper}(ho:ops[i]? =some o)(hw:a0d ops (rst E (o.looksAt ops)) o=some false)(hd:o.dst=some d)(hN:Nat.ble (d+1) N=true)(k:AM P N ops Hs K r ((d,.val undef)::E) H):
  AM P N ops Hs K ((i,false)::r) E H:=⟨o,d,_,ho,hd,lB hN,.no hw,k⟩
theorem AM.main {i:Nat}{r:List (Nat×Bool)}{E:Env}{H:List HE}(o:Oper)(ho:ops[i]? =some o)(h: ∀w0 R0,AO ⟨w0,a0t H,R0,N⟩ P ops (QS ⟨w0,a0t H,R0,N⟩ o.dst (fun v H'=>AM P N ops Hs K r (b0d o.dst v E) H')) [o] (rst E (o.looksAt ops)) H):
  AM P N ops Hs K ((i,true)::r) E H:=⟨o,ho,h⟩
theorem AM.ok {w0:World}{S0 R0:Nat→Prop}{d:Nat}{v:AV}{S:AV→List HE→Prop}{E1:Env}{H':List HE}(h:S v H'):AO ⟨w0,S0,R0,N⟩ P ops (QS ⟨w0,S0,R0,N⟩ (some d) S) [] ((d,v)::E1) H':=fun R a W hs ha=>
 ⟨ha.defers,v,H',R,h,hs,fun t ht=>by cases ht;exact ha.slots d v a0X⟩
theorem AM.okN {w0:World}{S0 R0:Nat→Prop}{S:AV→List HE→Prop}{E1:Env}{H':List HE}(h:S (.val undef) H'):AO ⟨w0,S0,R0,N⟩ P ops (QS ⟨w0,S0,R0,N⟩ none S) [] E1 H':=fun R a W hs ha=>
 ⟨ha.defers,_,H',R,h,hs,fun t ht=>by cases ht⟩
theorem AM.nil {E:Env}{H:List HE}(h:K E H):AM P N ops Hs K [] E H:=h
end
theorem d0Q (n:Int)(h0:0≤n)(h1:n<2^63):IntKind.i64.wrap n=n:=by rw[IntKind.wrap_i64];omega
section
variable {x y q m:Int}
theorem q0K (i:Nat)(hi:i≤8)(hq:q=2^i-1)(hm:m=2^i)(h:0≤x∧x≤255):Go.bits .and .u8 x q=x%m:=by
 subst hq;subst hm;exact bits_mask .u8 8 (by decide) wraps_u8 i hi x h.1 (by omega)
theorem p0u (i:Nat)(hi:i≤63)(hq:q=2^i-1)(hm:m=2^i)(h:0≤x∧x≤9223372036854775807):Go.bits .and .i64 x q=x%m:=by
 subst hq;subst hm;exact bits_mask .i64 63 (by decide) d0Q i hi x h.1 (by omega)
theorem m0r (i:Nat)(hi:i≤64)(hq:q=2^i-1)(hm:m=2^i)(h:0≤x∧x≤18446744073709551615):Go.bits .and .u64 x q=x%m:=by
 subst hq;subst hm;exact bits_mask .u64 64 (by decide) wraps_u64 i hi x h.1 (by omega)
theorem r0c (i:Nat)(hm:m=2^i)(hx:0≤x∧x≤255∧x%m=0)(hy:0≤y∧y<m∧y≤255):Go.bits .or .u8 x y=x+y:=by
 subst hm;exact bits_join .u8 8 (by decide) wraps_u8 i x y hx.1 hx.2.2 (by omega) hy.1 hy.2.1 (by omega)
theorem n0h (i:Nat)(hm:m=2^i)(hx:0≤x∧x≤9223372036854775807∧x%m=0)(hy:0≤y∧y<m∧y≤9223372036854775807):Go.bits .or .i64 x y=x+y:=by
 subst hm;exact bits_join .i64 63 (by decide) d0Q i x y hx.1 hx.2.2 (by omega) hy.1 hy.2.1 (by omega)
theorem n0g (i:Nat)(hm:m=2^i)(hx:0≤x∧x<m∧x≤255)(hy:0≤y∧y≤255∧y%m=0):Go.bits .or .u8 x y=x+y:=by
 subst hm;exact bits_join_low .u8 8 (by decide) wraps_u8 i x y hx.1 hx.2.1 (by omega) hy.1 hy.2.2 (by omega)
theorem h0X {a c:Nat}(ha:a<256)(hc:c<256):Go.bits .and .u8 (a:Int) (c:Int)=((a&&&c:Nat):Int):=(bits_nat .u8 8 (by decide) wraps_u8 a c ha hc).1
theorem h0n {a c:Nat}(ha:a<9223372036854775808)(hc:c<9223372036854775808):Go.bits .and .i64 (a:Int) (c:Int)=((a&&&c:Nat):Int):=(bits_nat .i64 63 (by decide) d0Q a c ha hc).1
theorem c0l {a b:UInt8}:Go.bits .xor .u8 (a.toNat:Int) (b.toNat:Int)=((a^^^b).toNat:Int):=by
 have h:(a.toNat^^^b.toNat)<2^8:=Nat.xor_lt_two_pow a.toNat_lt b.toNat_lt
 have e:(BitVec.ofInt 8 (a.toNat:Int)^^^BitVec.ofInt 8 (b.toNat:Int)).toNat=(a^^^b).toNat:=by
  rw[BitVec.toNat_xor,BitVec.ofInt_natCast,BitVec.ofInt_natCast,BitVec.toNat_ofNat,BitVec.toNat_ofNat,Nat.mod_eq_of_lt a.toNat_lt,Nat.mod_eq_of_lt b.toNat_lt,UInt8.toNat_xor]
 show IntKind.u8.wrap ((BitVec.ofInt 8 (a.toNat:Int)^^^BitVec.ofInt 8 (b.toNat:Int)).toNat:Int)=_
 rw[e]
 have:=(a^^^b).toNat_lt
 exact wraps_u8 _ (by omega) (by omega)
end
section
variable {Γ:Cx}{P:Program}{E:Env}{H:List HE}{N:Nat}{o:Oper}
theorem O.shrK (j:Nat)(m:Int){T T':Nat}{x y:Operand}{k k':IntKind}{p q:Int}(ho:o.op= .binOp .shr T x y T')(hx:ev E x=some (.val (.int k p)))(hy:ev E y=some (.val (.int k' q)))(hq:q=(j:Int))(hm:(2:Int)^ (min j k.bits)=m):
  OpW P N o E H (Is (.val (.int k (p/m)))):=O.shr ho hx hy (by omega) (by
   subst hq;subst hm
   rw[Int.toNat_natCast,Int.fdiv_eq_ediv_of_nonneg]
   exact Int.le_of_lt (Int.pow_pos (by decide)))
theorem O.shlK (j:Nat)(m:Int){T T':Nat}{x y:Operand}{k k':IntKind}{p q c:Int}(ho:o.op= .binOp .shl T x y T')(hx:ev E x=some (.val (.int k p)))(hy:ev E y=some (.val (.int k' q)))(hq:q=(j:Int))(hm:(2:Int)^ (min j k.bits)=m)(hc:k.wrap (p*m)=c):
  OpW P N o E H (Is (.val (.int k c))):=O.shl ho hx hy (by omega) (by
   subst hq;subst hm
   rw[Int.toNat_natCast];exact hc)
end
section
variable {Γ:Cx}{P:Program}{Q:Exit→Act→World→Prop}{E:Env}{H:List HE}
def Mid (Γ:Cx)(Q:Exit→Act→World→Prop)(φ:Prop)(E1:Env)(H1:List HE):Exit→Act→World→Prop:=Exit.then (fun a W=>φ∧ ∃R,RelS Γ R H1 W∧RelA Γ.N R W E1 a) Q
theorem l0K {c:Code}{a:Act}{W:World}{φ:Prop}{E1:Env}{H1:List HE}(h:c.wp P (Mid Γ Q φ E1 H1) a W)(k:φ→AQ Γ Q .normal E1 H1):c.wp P Q a W:=by
 refine wp_mono h ?_
 intro x a W hx
 cases x with
 |normal=>obtain⟨hφ,R,h1,h2⟩:=hx;exact k hφ R a W h1 h2
 |_=>exact hx
theorem AQ.midR {φ:Prop}{E1:Env}{H1:List HE}(h:AQ Γ Q .ret E H):AQ Γ (Mid Γ Q φ E1 H1) .ret E H:=h
theorem AW.joinK {t:Nat}{b:Bool}{x y:Code}(φ:Prop)(K E1:Env)(H1:List HE)(ht:a0j E t=some (.val (.bool b)))(hK: ∀p∈K,a0j E p.1=some p.2)(h1:b=true→AW Γ P (Mid Γ Q φ (E1++K) H1) x E H)(h2:b=false→AW Γ P (Mid Γ Q φ (E1++K) H1) y E H)(k:φ→AQ Γ Q .normal (E1++K) H1):
  AW Γ P Q (.cond (.tmp t) x y) E H:=AW.cond b ht (fun hb R a W hs ha=>l0K (h1 hb R a W hs ha) k) (fun hb R a W hs ha=>l0K (h2 hb R a W hs ha) k)
theorem xh {t:Nat}{b:Bool}{x y:Code}(φ:Prop)(K:Env)(E1:Env)(H1:List HE)(h1:b=true→AW Γ P (Mid Γ Q φ (E1++K) H1) x E H)(h2:b=false→AW Γ P (Mid Γ Q φ (E1++K) H1) y E H)(k:φ→AQ Γ Q .normal (E1++K) H1)(ht:a0j E t=some (.val (.bool b)):=by exact rfl)(hK: ∀p∈K,a0j E p.1=some p.2:=by repeat(first|exact a0f|refine a0h rfl ?_)):AW Γ P Q (.cond (.tmp t) x y) E H:=AW.joinK φ K E1 H1 ht hK h1 h2 k
theorem AQ.midK {φ:Prop}{K E1:Env}{H1:List HE}(hφ:φ)(hK: ∀p∈K,a0j E p.1=some p.2)(hE: ∀p∈E1,a0j E p.1=some p.2)(hH: ∃H2,H2.Sublist H∧H1.Perm H2):AQ Γ (Mid Γ Q φ (E1++K) H1) .normal E H:=fun R a W hs ha=>by
 obtain⟨H2,h1,h2⟩:=hH
 have hmem: ∀{E:Env} {t:Nat} {v:AV},a0j E t=some v→(t,v)∈E:=by
  intro E
  induction E with
  |nil=>intro t v h;cases h
  |cons p r ih=>
   intro t v h
   unfold a0j at h
   cases hb:Nat.beq p.1 t with
   |true=>rw[hb]at h;simp at h;subst h;have:=Nat.eq_of_beq_eq_true hb;subst this;exact List.mem_cons_self ..
   |false=>rw[hb]at h;exact List.mem_cons_of_mem _ (ih h)
 exact⟨hφ,R,(hs.sub h1).perm h2,ha.defers,ha.size,fun t v ht=>ha.slots t v (f0I hE hK _ (hmem ht))⟩
theorem zV {φ:Prop}{K E1:Env}{H1:List HE}(hφ:φ:=by exact(trivial))(hK: ∀p∈K,a0j E p.1=some p.2:=by repeat(first|exact a0f|refine a0h rfl ?_))(hE: ∀p∈E1,a0j E p.1=some p.2:=by repeat(first|exact a0f|refine a0h rfl ?_))(hH: ∃H2,H2.Sublist H∧H1.Perm H2:=by repeat(first|exact a0p|refine a0m 0 rfl ?_)):AQ Γ (Mid Γ Q φ (E1++K) H1) .normal E H:=AQ.midK hφ hK hE hH
theorem xj {φ:Prop}{K E1:Env}{H1:List HE}(hφ:φ)(hK: ∀p∈K,a0j E p.1=some p.2:=by repeat(first|exact a0f|refine a0h rfl ?_))(hE: ∀p∈E1,a0j E p.1=some p.2:=by repeat(first|exact a0f|refine a0h rfl ?_))(hH: ∃H2,H2.Sublist H∧H1.Perm H2:=by repeat(first|exact a0p|refine a0m 0 rfl ?_)):AQ Γ (Mid Γ Q φ (E1++K) H1) .normal E H:=AQ.midK hφ hK hE hH
theorem AQ.midK0 {φ:Prop}{E1:Env}{H1:List HE}(hφ:φ)(hE: ∀p∈E1,a0j E p.1=some p.2)(hH: ∃H2,H2.Sublist H∧H1.Perm H2):AQ Γ (Mid Γ Q φ E1 H1) .normal E H:=
 AQ.midK (K:=E1) (E1:= []) hφ hE (fun p hp=>absurd hp (by simp)) hH
def l0J (Γ:Cx)(Q:Exit→Act→World→Prop)(K:Env)(I:Env→List HE→Prop):Exit→Act→World→Prop:=Exit.then (fun a W=> ∃E1 H1 R,I E1 H1∧RelS Γ R H1 W∧RelA Γ.N R W (E1++K) a) Q
theorem i0V {c:Code}{a:Act}{W:World}{K:Env}{I:Env→List HE→Prop}(h:c.wp P (l0J Γ Q K I) a W)(k: ∀E1 H1,I E1 H1→AQ Γ Q .normal (E1++K) H1):c.wp P Q a W:=by
 refine wp_mono h ?_
 intro x a W hx
 cases x with
 |normal=>obtain⟨E1,H1,R,hI,h1,h2⟩:=hx;exact k E1 H1 hI R a W h1 h2
 |_=>exact hx
theorem AW.joinI {t:Nat}{b:Bool}{x y:Code}(K:Env)(I:Env→List HE→Prop)(ht:a0j E t=some (.val (.bool b)))(hK: ∀p∈K,a0j E p.1=some p.2)(h1:b=true→AW Γ P (l0J Γ Q K I) x E H)(h2:b=false→AW Γ P (l0J Γ Q K I) y E H)(k: ∀E1 H1,I E1 H1→AQ Γ Q .normal (E1++K) H1):
  AW Γ P Q (.cond (.tmp t) x y) E H:=AW.cond b ht (fun hb R a W hs ha=>i0V (h1 hb R a W hs ha) k) (fun hb R a W hs ha=>i0V (h2 hb R a W hs ha) k)
theorem xV {t:Nat}{b:Bool}{x y:Code}(K:Env)(I:Env→List HE→Prop)(h1:b=true→AW Γ P (l0J Γ Q K I) x E H)(h2:b=false→AW Γ P (l0J Γ Q K I) y E H)(k: ∀E1 H1,I E1 H1→AQ Γ Q .normal (E1++K) H1)(ht:a0j E t=some (.val (.bool b)):=by exact rfl)(hK: ∀p∈K,a0j E p.1=some p.2:=by repeat(first|exact a0f|refine a0h rfl ?_)):AW Γ P Q (.cond (.tmp t) x y) E H:=AW.joinI K I ht hK h1 h2 k
theorem AQ.midI {K:Env}{I:Env→List HE→Prop}(E1:Env)(H1:List HE)(hI:I E1 H1)(hK: ∀p∈K,a0j E p.1=some p.2)(hE: ∀p∈E1,a0j E p.1=some p.2)(hH: ∃H2,H2.Sublist H∧H1.Perm H2):AQ Γ (l0J Γ Q K I) .normal E H:=fun R a W hs ha=>by
 obtain⟨H2,h1,h2⟩:=hH
 have hmem: ∀{E:Env} {t:Nat} {v:AV},a0j E t=some v→(t,v)∈E:=by
  intro E
  induction E with
  |nil=>intro t v h;cases h
  |cons p r ih=>
   intro t v h
   unfold a0j at h
   cases hb:Nat.beq p.1 t with
   |true=>rw[hb]at h;simp at h;subst h;have:=Nat.eq_of_beq_eq_true hb;subst this;exact List.mem_cons_self ..
   |false=>rw[hb]at h;exact List.mem_cons_of_mem _ (ih h)
 exact⟨E1,H1,R,hI,(hs.sub h1).perm h2,ha.defers,ha.size,fun t v ht=>ha.slots t v (f0I hE hK _ (hmem ht))⟩
theorem ym {K:Env}{I:Env→List HE→Prop}(E1:Env)(H1:List HE)(hI:I E1 H1)(hK: ∀p∈K,a0j E p.1=some p.2:=by repeat(exact a0f))(hE: ∀p∈E1,a0j E p.1=some p.2:=by repeat(first|exact a0f|refine a0h rfl ?_))(hH: ∃H2,H2.Sublist H∧H1.Perm H2:=by repeat(exact a0p)):AQ Γ (l0J Γ Q K I) .normal E H:=AQ.midI E1 H1 hI hK hE hH
theorem yB {K:Env}{I:Env→List HE→Prop}(E1:Env)(H1:List HE)(hI:I E1 H1)(hK: ∀p∈K,a0j E p.1=some p.2:=by repeat(first|exact a0f|refine a0h rfl ?_))(hE: ∀p∈E1,a0j E p.1=some p.2:=by repeat(first|exact a0f|refine a0h rfl ?_))(hH: ∃H2,H2.Sublist H∧H1.Perm H2:=by repeat(exact a0p)):AQ Γ (l0J Γ Q K I) .normal E H:=AQ.midI E1 H1 hI hK hE hH
theorem xe {K:Env}{I:Env→List HE→Prop}(E1:Env)(H1:List HE)(hI:I E1 H1)(hK: ∀p∈K,a0j E p.1=some p.2:=by repeat(first|exact a0f|refine a0h rfl ?_))(hE: ∀p∈E1,a0j E p.1=some p.2:=by repeat(exact a0f))(hH: ∃H2,H2.Sublist H∧H1.Perm H2:=by repeat(first|exact a0p|refine a0m 0 rfl ?_)):AQ Γ (l0J Γ Q K I) .normal E H:=AQ.midI E1 H1 hI hK hE hH
theorem FnQ.coe {Γ:Cx}{P:Program}{fn:Func}{Post:AV→List HE→Prop}{E:Env}{H:List HE}{r r':AV}{H':List HE}(h:AQ Γ (FnQ Γ P fn (fun q K=>q=r∧K=H')) .ret E H)(hc:Coe r r')(hp:Post r' H'):AQ Γ (FnQ Γ P fn Post) .ret E H:=fun R a W hs ha=>by
 have:=h R a W hs ha
 unfold FnQ at this⊢
 obtain⟨hd,v,hv,u,q,K,R',he,⟨rfl,rfl⟩,h1,h2⟩:=this
 exact⟨hd,v,hv,u,_,_,R',he,hp,h1,hc R' W u h2⟩
theorem wg {Γ:Cx}{P:Program}{fn:Func}{Post:AV→List HE→Prop}{E:Env}{H:List HE}{r r':AV}{H':List HE}(h:AQ Γ (FnQ Γ P fn (fun q K=>q=r∧K=H')) .ret E H)(hc:Coe r r')(hp:Post r' H'):AQ Γ (FnQ Γ P fn Post) .ret E H:=FnQ.coe h hc hp
theorem Coe.tup {x y:List AV}(h:CoeL x y):Coe (.tup x) (.tup y):=fun R W u hu=>by
 obtain⟨us,rfl,h1⟩:=hu.tup_inv
 exact(h R W us h1).toTup
theorem zo {x y:List AV}(h:CoeL x y:=by(repeat(first|exact CoeL.nil|refine CoeL.cons Coe.rfl ?_|refine CoeL.cons Coe.nil ?_|refine CoeL.cons (Coe.agg ?_) ?_));done):Coe (.tup x) (.tup y):=Coe.tup h
theorem yy {x y:List AV}(h:CoeL x y:=by(repeat(first|exact CoeL.nil|refine CoeL.cons Coe.rfl ?_|refine CoeL.cons Coe.nil ?_));done):Coe (.tup x) (.tup y):=Coe.tup h
theorem xk {x y:List AV}(h:CoeL x y:=by(repeat(first|exact CoeL.nil|refine CoeL.cons Coe.rfl ?_));done):Coe (.tup x) (.tup y):=Coe.tup h
end
end Go.Proofs.YtojomcdjcpmnkaaGreat.A
namespace Go.Proofs.YtojomcdjcpmnkaaGreat.Dk
open Go.RowKit L A
attribute [local irreducible] AW AQ AO
theorem o0Q (v n:Int)(h1:0<n)(h2:n≤4611686018427387904):Sp Tryz.prog 82 [.val (.int .i64 v),.val (.int .i64 n)] [] (Is (.val (.int .i64 (v%n)))):=by
 have hf:=j0a v n h1
 have hlt:v.tmod n<n:=Int.tmod_lt_of_pos v h1
 have hge: -n<v.tmod n:=by
  rcases Int.le_total 0 v with hv|hv
  ·have:=Int.tmod_nonneg n hv;omega
  ·have:=Int.lt_tmod_of_pos v h1;omega
 refine Sp.enter Tryz.func82 rfl _ Tryz.ntmps82 rfl (fun w0 R0=> ?_)
 refine AW.seq ?_
 refine AW.region ?_
 refine AO.op (O.assign rfl rfl) rfl rfl rfl ?_
 refine AO.nil ?_
 refine AQ.thenN ?_
 refine AW.seq ?_
 refine AW.region ?_
 refine AO.op (O.move rfl rfl) rfl rfl rfl ?_
 refine AO.op (O.move rfl rfl) rfl rfl rfl ?_
 refine AO.op (O.rem rfl rfl rfl (by omega) rfl) rfl rfl rfl ?_
 refine AO.op (O.assign rfl rfl) rfl rfl rfl ?_
 refine AO.nil ?_
 refine AQ.thenN ?_
 refine AW.seq ?_
 refine AW.seq ?_
 refine AW.region ?_
 refine AO.op (O.move rfl rfl) rfl rfl rfl ?_
 refine AO.op (O.lss rfl rfl rfl (by rfl)) rfl rfl rfl ?_
 refine AO.nil ?_
 refine AQ.thenN ?_
 refine AW.split rfl (fun h=> ?_) (fun h=> ?_)
 ·have h:v.tmod n<0:=of_decide_eq_true h
  rw[if_pos h]at hf
  refine AW.region ?_
  refine AO.op (O.move rfl rfl) rfl rfl rfl ?_
  refine AO.op (O.move rfl rfl) rfl rfl rfl ?_
  refine AO.op (O.add rfl rfl rfl (by exact f0U (by omega))) rfl rfl rfl ?_
  refine AO.op (O.assign rfl rfl) rfl rfl rfl ?_
  refine AO.nil ?_
  refine AQ.thenN ?_
  refine AW.seq ?_
  refine AW.region ?_
  refine AO.op (O.move rfl rfl) rfl rfl rfl ?_
  refine AO.op (O.assign rfl rfl) rfl rfl rfl ?_
  refine AO.nil ?_
  refine AQ.thenN ?_
  refine AW.ret ?_
  refine AQ.ret1 rfl rfl nS (⟨by rw[hf],rfl⟩)
 ·have h: ¬v.tmod n<0:=of_decide_eq_false h
  rw[if_neg h]at hf
  refine AW.skip ?_
  refine AQ.thenN ?_
  refine AW.seq ?_
  refine AW.region ?_
  refine AO.op (O.move rfl rfl) rfl rfl rfl ?_
  refine AO.op (O.assign rfl rfl) rfl rfl rfl ?_
  refine AO.nil ?_
  refine AQ.thenN ?_
  refine AW.ret ?_
  refine AQ.ret1 rfl rfl nS (⟨by rw[hf],rfl⟩)
abbrev e0E (b:Nat)(l:List Int)(k:Nat):HE:= .blk b 101 2 [roI l,.val (.int .i64 (k:Int))]
abbrev ptr (b:Nat):AV:= .val (.pointer (some ⟨b,0,none⟩))
def nxt (l:List Int)(k:Nat)(n:Int):Int:=if k<l.length then l.getD k 0%n else 0
def adv (l:List Int)(k:Nat):Nat:=if k<l.length then k+1 else k
theorem l0W (l:List Int)(k:Nat){n:Int}(h:0<n):0≤nxt l k n∧nxt l k n<n:=by
 unfold nxt
 split
 ·exact⟨Int.emod_nonneg _ (by omega),Int.emod_lt_of_pos _ h⟩
 ·omega
theorem p0y {l:List Int}{k m:Nat}(h:k≤m)(hm:l.length≤m):adv l k≤m:=by unfold adv;split<;>omega
theorem n0P {l:List Int}{k:Nat}(h:k≤l.length):adv l k≤l.length:=p0y h (Nat.le_refl _)
theorem o0O (l:List Int):Sp Tryz.prog 11 [roI l] [] (a0S (fun b=> .val (.pointer (some ⟨b,0,none⟩))) 101 2 [roI l,.val (.int .i64 0)]):=by
 refine Sp.enter Tryz.func11 rfl _ Tryz.ntmps11 rfl (fun w0 R0=> ?_)
 refine AW.seq ?_
 refine AW.region ?_
 refine AO.op (O.assign rfl rfl) rfl rfl rfl ?_
 refine AO.nil ?_
 refine AQ.thenN ?_
 refine AW.seq ?_
 refine AW.region ?_
 refine AO.op (O.move rfl rfl) rfl rfl rfl ?_
 refine AO.op (O.build rfl rfl rfl (by rfl)) rfl rfl rfl ?_
 refine AO.opB (O.box rfl rfl rfl rfl rfl) rfl rfl rfl ?_
 intro B
 refine AO.op (O.assign rfl rfl) rfl rfl rfl ?_
 refine AO.nil ?_
 refine AQ.thenN ?_
 refine AW.ret ?_
 refine AQ.ret1 rfl rfl ⟨_,by repeat(first|exact List.Sublist.slnil|refine List.Sublist.cons_cons _ ?_),List.Perm.refl _⟩ (⟨B,rfl,rfl⟩)
theorem l0R {l:List Int}{k:Nat}(h:k<l.length){j:Nat}(hj:j=k):(c0m .i64 l)[j]? =some (.val (.int .i64 (l.getD k 0))):=by
 subst hj;simp[c0m,h]
theorem n0o (b:Nat)(l:List Int)(k:Nat)(n:Int)(hl:l.length≤maxLen)(hk:k≤l.length)(hn1:0<n)(hn2:n≤4611686018427387904):
  Sp Tryz.prog 33 [ptr b,.val (.int .i64 n)] [e0E b l k] (IsM (.val (.int .i64 (nxt l k n))) (e0E b l (adv l k))):=by
 unfold maxLen at hl
 refine Sp.enter Tryz.func33 rfl _ Tryz.ntmps33 rfl (fun w0 R0=> ?_)
 refine AW.seq ?_
 refine AW.region ?_
 refine AO.op (O.assign rfl rfl) rfl rfl rfl ?_
 refine AO.nil ?_
 refine AQ.thenN ?_
 refine AW.seq ?_
 refine AW.seq ?_
 refine AW.regionD 10 (by kernel_rfl) (by kernel_rfl) ?_
 simp only[cT,cZ,cD,cO]
 refine FA.op (O.move rfl rfl) rfl rfl rfl rfl ?_
 refine FA.op (O.nilCheck rfl rfl) rfl rfl rfl rfl ?_
 refine FA.op (O.fieldAddr rfl rfl) rfl rfl rfl rfl ?_
 refine FA.op (O.load rfl rfl (by repeat(exact List.Mem.head _)) (by rfl)) rfl rfl rfl rfl ?_
 refine FA.op (O.move rfl rfl) rfl rfl rfl rfl ?_
 refine FA.op (O.nilCheck rfl rfl) rfl rfl rfl rfl ?_
 refine FA.op (O.fieldAddr rfl rfl) rfl rfl rfl rfl ?_
 refine FA.op (O.load rfl rfl (by repeat(exact List.Mem.head _)) (by rfl)) rfl rfl rfl rfl ?_
 refine FA.op (O.lenR rfl rfl) rfl rfl rfl rfl ?_
 refine FA.op (O.geq rfl rfl rfl (by rfl)) rfl rfl rfl rfl ?_
 refine FA.nil ?_
 simp only[a0l,cN,cA,cP]
 refine AO.nil ?_
 refine AQ.thenN ?_
 refine AW.split rfl (fun h=> ?_) (fun h=> ?_)
 ·have h: ¬k<l.length:=by have:=of_decide_eq_true h;omega
  refine AW.seq ?_
  refine AW.region ?_
  refine AO.op (O.assign rfl rfl) rfl rfl rfl ?_
  refine AO.nil ?_
  refine AQ.thenN ?_
  refine AW.ret ?_
  refine AQ.thenR ?_
  have e1:nxt l k n=0:=by simp only[nxt,if_neg h]
  have e2:adv l k=k:=by simp only[adv,if_neg h]
  refine AQ.ret1 rfl rfl ⟨_,by repeat(first|exact List.Sublist.slnil|refine List.Sublist.cons_cons _ ?_),List.Perm.refl _⟩ (⟨congrArg (fun z=>AV.val (.int .i64 z)) e1.symm,congrArg (fun z=> [e0E b l z]) e2.symm⟩)
 ·have h:k<l.length:=by have:=of_decide_eq_false h;omega
  refine AW.skip ?_
  refine AQ.thenN ?_
  refine AW.seq ?_
  refine AW.region ?_
  refine AO.op (O.move rfl rfl) rfl rfl rfl ?_
  refine AO.op (O.nilCheck rfl rfl) rfl rfl rfl ?_
  refine AO.op (O.fieldAddr rfl rfl) rfl rfl rfl ?_
  refine AO.op (O.load rfl rfl (by repeat(exact List.Mem.head _)) (by rfl)) rfl rfl rfl ?_
  refine AO.op (O.add rfl rfl rfl (by exact f0U (by omega))) rfl rfl rfl ?_
  refine AO.op (O.nilCheck rfl rfl) rfl rfl rfl ?_
  refine AO.op (O.fieldAddr rfl rfl) rfl rfl rfl ?_
  (refine AO.store (i:=0) rfl rfl rfl rfl rfl rfl (by rfl) (by rfl) (by rfl) (by(dsimp only[List.set,List.append,cA,cN,a0c,a0n,AV.cells,List.map,List.map_cons,List.map_nil,List.take,List.drop,Nat.zero_add,Nat.add_zero,Nat.reduceAdd,Nat.reduceMul,Nat.zero_mul,Value.cells,List.toList_toArray,a0o,List.replicate,List.flatten,cP];done)) (by(dsimp only[List.set,List.append,cA,cN,a0c,a0n,AV.cells,List.map,List.map_cons,List.map_nil,List.take,List.drop,Nat.zero_add,Nat.add_zero,Nat.reduceAdd,Nat.reduceMul,Nat.zero_mul,Value.cells,List.toList_toArray,a0o,List.replicate,List.flatten,cP];done)) ?_)
  refine AO.nil ?_
  refine AQ.thenN ?_
  refine AW.seq ?_
  refine AW.regionD 14 (by kernel_rfl) (by kernel_rfl) ?_
  simp only[cT,cZ,cD,cO]
  refine FA.op (O.move rfl rfl) rfl rfl rfl rfl ?_
  refine FA.op (O.nilCheck rfl rfl) rfl rfl rfl rfl ?_
  refine FA.op (O.fieldAddr rfl rfl) rfl rfl rfl rfl ?_
  refine FA.op (O.load rfl rfl (by repeat(exact List.Mem.head _)) (by rfl)) rfl rfl rfl rfl ?_
  refine FA.op (O.move rfl rfl) rfl rfl rfl rfl ?_
  refine FA.op (O.nilCheck rfl rfl) rfl rfl rfl rfl ?_
  refine FA.op (O.fieldAddr rfl rfl) rfl rfl rfl rfl ?_
  refine FA.op (O.load rfl rfl (by repeat(exact List.Mem.head _)) (by rfl)) rfl rfl rfl rfl ?_
  refine FA.op (O.sub rfl rfl rfl (by exact f0U (by omega))) rfl rfl rfl rfl ?_
  refine FA.op (O.idxR rfl rfl rfl ⟨(by omega),(by omega)⟩) rfl rfl rfl rfl ?_
  refine FA.op (O.loadR rfl rfl (by exact l0R (by assumption) (by omega))) rfl rfl rfl rfl ?_
  refine FA.op (O.move rfl rfl) rfl rfl rfl rfl ?_
  refine FA.op (O.call rfl Tryz.func82 rfl rfl rfl (o0Q _ _ hn1 hn2)) rfl rfl rfl rfl ?_
  refine FA.op (O.assign rfl rfl) rfl rfl rfl rfl ?_
  refine FA.nil ?_
  simp only[a0l,cN,cA,cP]
  refine AO.nil ?_
  refine AQ.thenN ?_
  refine AW.ret ?_
  have e1:nxt l k n=l.getD k 0%n:=by simp only[nxt,if_pos h]
  have e2:adv l k=k+1:=by simp only[adv,if_pos h]
  refine AQ.ret1 rfl rfl ⟨_,by repeat(first|exact List.Sublist.slnil|refine List.Sublist.cons_cons _ ?_),List.Perm.refl _⟩ (⟨congrArg (fun z=>AV.val (.int .i64 z)) e1.symm,congrArg (fun z=> [e0E b l z]) e2.symm⟩)
end Go.Proofs.YtojomcdjcpmnkaaGreat.Dk
namespace Go.Proofs.YtojomcdjcpmnkaaGreat.By
open Go.RowKit L A
attribute [local irreducible] AW AQ AO
section
variable {α:Type}{f:α→List AV}{k:Nat}
theorem f0C (hf: ∀a,(f a).length=k): ∀l:List α,(l.flatMap f).length=l.length*k
 | []=>by simp
 |a::l=>by rw[List.flatMap_cons,cH,hf,f0C hf l,cL,Nat.add_mul];omega
theorem g0i (hf: ∀a,(f a).length=k): ∀(l:List α) (n:Nat),(l.flatMap f).drop (n*k)=(l.drop n).flatMap f
 | [],n=>by simp
 |a::l,0=>by simp
 |a::l,n+1=>by
  rw[List.flatMap_cons,cD,←g0i hf l n,show(n+1)*k=(f a).length+n*k by rw[hf,Nat.add_mul];omega,List.drop_length_add_append]
theorem f0D (hf: ∀a,(f a).length=k)(d:α){l:List α}{i:Nat}(h:i<l.length){j:Nat}(hj:j=i):((l.flatMap f).drop (j*k)).take k=f (l.getD i d):=by
 subst hj
 rw[g0i hf,List.drop_eq_getElem_cons h,List.flatMap_cons,List.take_left' (hf _)]
 simp[h]
theorem l0u (l m:List α):(l++m).flatMap f=l.flatMap f++m.flatMap f:=List.flatMap_append
theorem g0h (l:List α)(a:α):(l++[a]).flatMap f=l.flatMap f++f a:=by simp[List.flatMap_append]
theorem a0i (d:α){l:List α}{i:Nat}(h:i<l.length):l.take (i+1)=l.take i++[l.getD i d]:=by
 rw[List.take_succ_eq_append_getElem h];simp[h]
theorem g0n (d:α){l:List α}{i:Nat}(h:i<l.length):l.drop i=l.getD i d::l.drop (i+1):=by
 rw[List.drop_eq_getElem_cons h];simp[h]
theorem b0u (d:α){l:List α}{i:Nat}(h:i<l.length):l.getD i d∈l:=by simp[h]
end
theorem g0p {p:Prop}[Decidable p]{b:Bool}(h:p↔b=true):decide p=b:=by
 cases b
 ·exact decide_eq_false fun hp=>by have:=h.1 hp;cases this
 exact decide_eq_true (h.2 rfl)
abbrev bt (l:List UInt8)(k:Nat):UInt8:=l.getD k 0
theorem c0N {l:List UInt8}{k:Nat}(h:k<l.length){j:Nat}(hj:j=k):(a0a l)[j]? =some (.val (.int .u8 ((bt l k).toNat:Int))):=by
 subst hj;simp[a0a,h,bt]
theorem i0f (x:UInt8):0≤(x.toNat:Int)∧(x.toNat:Int)<256:=by have:=x.toNat_lt;omega
theorem u8_eq {x y:UInt8}:(x.toNat:Int)=(y.toNat:Int)↔x=y:=by
 rw[Int.ofNat_inj];exact UInt8.toNat_inj
theorem a0C {x:Int}(h:0≤x∧x<256):((u8 x).toNat:Int)=x:=by rw[c0c];omega
theorem b0M {n:Nat}{xs:List AV}{l:List UInt8}(h1:n=l.length)(h2:xs=a0a l):AV.ro false n xs=roB l:=by subst h1;subst h2;rfl
theorem f0K {l:List UInt8}{k:Nat}(h:k<l.length):l.drop k=bt l k::l.drop (k+1):=g0n 0 h
theorem g0E {l:List UInt8}{k:Nat}(h:k<l.length):l.take (k+1)=l.take k++[bt l k]:=a0i 0 h
theorem h0i (l:List UInt8)(n:Nat):(a0a l).take (n*1)=a0a (l.take n):=by simp[a0a,List.map_take]
theorem h0j (l:List UInt8)(n:Nat):(a0a l).drop (n*1)=a0a (l.drop n):=by simp[a0a,List.map_drop]
theorem e0n {l:List UInt8}{a c n m:Nat}(h:a=n)(h2:c=m):((a0a l).drop (a*1)).take (c*1)=a0a ((l.drop n).take m):=by subst h;subst h2;simp[a0a,List.map_drop,List.map_take]
@[simp] theorem m0z (l:List UInt8) (n:Nat):(a0a l).take n=a0a (l.take n):=by simp[a0a,List.map_take]
@[simp] theorem n0D (l:List UInt8) (n:Nat):(a0a l).drop n=a0a (l.drop n):=by simp[a0a,List.map_drop]
section
variable {P:Program}{E:Env}{H:List HE}{N:Nat}{o:Oper}
theorem _root_.Go.Proofs.YtojomcdjcpmnkaaGreat.A.O.sliceToB {T:Nat}{x y:Operand}{k:Nat}{kk:IntKind}{z:Int}{l:List UInt8}{U bs:Nat}{zz:Value}[hs:TyS P T U 1 bs zz](ho:o.op= .slice T x none (some y) none)(hx:ev E x=some (roB l))(hy:ev E y=some (.val (.int kk z)))(hz:z=(k:Int))(hk:k≤l.length):OpW P N o E H (Is (roB (l.take k))):=by
 have:=O.sliceTo (P:=P) (k:=k) (H:=H) (N:=N) ho hx hy hz hk (h0i l k)
 rwa [b0M (by simp;omega) rfl]at this
theorem _root_.Go.Proofs.YtojomcdjcpmnkaaGreat.A.O.sliceFromB {T:Nat}{x y:Operand}{k:Nat}{kk:IntKind}{z:Int}{l:List UInt8}{U bs:Nat}{zz:Value}[hs:TyS P T U 1 bs zz](ho:o.op= .slice T x (some y) none none)(hx:ev E x=some (roB l))(hy:ev E y=some (.val (.int kk z)))(hz:z=(k:Int))(hk:k≤l.length):OpW P N o E H (Is (roB (l.drop k))):=by
 have:=O.sliceFrom (P:=P) (k:=k) (H:=H) (N:=N) ho hx hy hz hk (by simp) (h0j l k)
 rwa [b0M (by simp) rfl]at this
theorem _root_.Go.Proofs.YtojomcdjcpmnkaaGreat.A.O.sliceLHB {T:Nat}{x y y':Operand}{lo hi:Nat}{kk kk':IntKind}{z z':Int}{l:List UInt8}{U bs:Nat}{zz:Value}[hs:TyS P T U 1 bs zz](ho:o.op= .slice T x (some y) (some y') none)(hx:ev E x=some (roB l))(hy:ev E y=some (.val (.int kk z)))(hy':ev E y'=some (.val (.int kk' z')))(hz:z=(lo:Int))(hz':z'=(hi:Int))(hlh:lo≤hi)(hhn:hi≤l.length):OpW P N o E H (Is (roB ((l.drop lo).take (hi-lo)))):=by
 have:=O.sliceLH (P:=P) (l:=lo) (h:=hi) (H:=H) (N:=N) ho hx hy hy' hz hz' hlh hhn (e0n rfl rfl)
 rwa [b0M (by simp;omega) rfl]at this
end
structure Opt where
 num:Int
 val:List UInt8
 deriving DecidableEq
structure Msg where
 ty:Int
 code:Int
 id:Int
 tok:List UInt8
 opts:List Opt
 pay:List UInt8
 deriving DecidableEq
def Opt.none:Opt:=⟨0,[]⟩
def Msg.none:Msg:=⟨0,0,0,[],[],[]⟩
def k0p (o:Opt):List AV:= [.val (.int .i64 o.num),roB o.val]
theorem f0a (o:Opt):(k0p o).length=2:=rfl
def a0L (os:List Opt):List AV:=os.flatMap k0p
def roO (os:List Opt):AV:= .ro false os.length (a0L os)
def p0q (m:Msg):List AV:= [.val (.int .i64 m.ty),.val (.int .i64 m.code),.val (.int .i64 m.id),roB m.tok,roO m.opts,roB m.pay]
abbrev b0s (m:Msg):AV:= .agg [.val (.int .i64 m.ty),.val (.int .i64 m.code),.val (.int .i64 m.id),roB m.tok,roO m.opts,roB m.pay]
abbrev r0r (o:Opt):AV:= .agg [.val (.int .i64 o.num),roB o.val]
theorem a0w (l:List UInt8):(roB l).cells= [roB l]:=rfl
theorem a0v (l:List Int):(roI l).cells= [roI l]:=rfl
theorem a0A (l:List Opt):(roO l).cells= [roO l]:=rfl
abbrev oat (os:List Opt)(k:Nat):Opt:=os.getD k Opt.none
@[simp] theorem o0J (os:List Opt):(a0L os).length=os.length*2:=f0C f0a os
theorem j0L (a b:List Opt):a0L (a++b)=a0L a++a0L b:=l0u a b
theorem a0E (a:List Opt)(o:Opt):a0L (a++[o])=a0L a++[.val (.int .i64 o.num),roB o.val]:=g0h a o
theorem j0K (os:List Opt):(a0L os).all AV.one=true:=by
 induction os with
 |nil=>rfl
 |cons o os ih=>rw[a0L,List.flatMap_cons,List.all_append];rw[a0L]at ih;rw[ih];rfl
theorem r0d {os:List Opt}{k:Nat}(h:k<os.length){j:Nat}(hj:j=k):((a0L os).drop (j*2)).take 2= [.val (.int .i64 (oat os k).num),roB (oat os k).val]:=f0D f0a Opt.none h hj
end Go.Proofs.YtojomcdjcpmnkaaGreat.By
namespace Go.Proofs.YtojomcdjcpmnkaaGreat.By
open Go.RowKit L A
inductive It where
 |mk (k n:Int) (b:List UInt8) (l:List It)
abbrev hnI (k n:Int)(b:List UInt8)(m:Nat):Int:=if k=2∨k=3 then(b.length:Int)else if k=4 then(m:Int)else n
mutual
def It.cells:It→List AV
 | .mk k n b l=> [.val (.int .i64 k),.val (.int .u64 n),roB b,.ro false l.length (c0R l)]
def c0R:List It→List AV
 | []=> []
 |x::l=>x.cells++c0R l
end
mutual
def It.nodes:It→Nat
 | .mk _ _ _ l=>1+l0Y l
def l0Y:List It→Nat
 | []=>0
 |x::l=>x.nodes+l0Y l
end
mutual
def It.enc:It→List UInt8
 | .mk k n b l=>u8 (32*k+hnI k n b l.length)::(b++b0r l)
def b0r:List It→List UInt8
 | []=> []
 |x::l=>x.enc++b0r l
end
theorem f0A (l:List It):c0R l=l.flatMap It.cells:=by
 induction l with
 |nil=>rw[c0R];rfl
 |cons x l ih=>rw[c0R,ih,List.flatMap_cons]
theorem g0v (x:It):x.cells.length=4:=by cases x;rw[It.cells];rfl
theorem e0X (l:List It)(x:It):b0r (l++[x])=b0r l++x.enc:=by
 induction l with
 |nil=>simp[b0r]
 |cons y l ih=>simp[b0r,ih]
theorem e0l (l m:List It):b0r (l++m)=b0r l++b0r m:=by
 induction l with
 |nil=>simp[b0r]
 |cons y l ih=>simp[b0r,ih]
def itN:It:= .mk 0 0 [] []
abbrev k0B (l:List It)(k:Nat):It:=l.getD k itN
theorem p0d {l:List It}{k:Nat}(h:k<l.length){j:Nat}(hj:j=k):((c0R l).drop (j*4)).take 4=(k0B l k).cells:=by
 rw[f0A];exact f0D g0v itN h hj
theorem l0n (l:List It):(c0R l).length=l.length*4:=by rw[f0A];exact f0C g0v l
theorem c0h {k n:Int}{b:List UInt8}:(It.mk k n b []).enc=u8 (32*k+hnI k n b 0)::b:=by
 rw[It.enc,b0r,cP];rfl
theorem h0d {n:Int}{l:List It}:(It.mk 4 n [] l).enc=u8 (32*4+(l.length:Int))::b0r l:=by
 rw[It.enc];rfl
end Go.Proofs.YtojomcdjcpmnkaaGreat.By
namespace Go.Proofs.YtojomcdjcpmnkaaGreat.A
open Go.RowKit L
section
variable {Γ:Cx}{P:Program}{Q:Exit→Act→World→Prop}{E:Env}{H:List HE}
theorem G.freezeK {X:Act→World→Prop}(i:Nat){v:Value}{T sz n:Nat}{xs:List AV}(hi:H[i]? =some (.row v T sz n xs))
  (k: ∀R a W,RelS Γ R (H.eraseIdx i) W→RelA Γ.N R W E a→RelV R W (.ro false n xs) v→X a W):G Γ E H X:=fun R a W hs ha=>by
 have hmem:=List.mem_of_getElem? hi
 obtain⟨hlt,he⟩:=List.getElem?_eq_some_iff.1 hi
 have hsub:(H.eraseIdx i).Sublist H:=List.eraseIdx_sublist _ _
 have hdis: ∀f∈H.eraseIdx i,∀b,f.foot b→ ¬(HE.row v T sz n xs).foot b:=fun f hf b hb hb'=>by
  obtain⟨j,hj,rfl⟩:=List.getElem_of_mem hf
  rw[List.getElem_eraseIdx]at hb
  rw[List.length_eraseIdx,if_pos hlt]at hj
  split at hb
  ·exact(List.pairwise_iff_getElem.1 hs.disj j i (by omega) hlt (by omega)) b hb (by rw[he];exact hb')
  ·exact(List.pairwise_iff_getElem.1 hs.disj i (j+1) hlt (by omega) (by omega)) b (by rw[he];exact hb') hb
 have hRS: ∀b,R b→R b∨(HE.row v T sz n xs).foot b:=fun b h=> .inl h
 obtain⟨us,hown,hr⟩:=hs.ok _ hmem
 refine k (fun b=>R b∨(HE.row v T sz n xs).foot b) a W ⟨hs.mods,?_,fun b hb=> .inl (hs.rsub b hb),?_,fun e he=>HE.ok_mono hRS (fun _ _=>rfl) (Nat.le_refl _) (fun _ _=>rfl) (hs.ok e (hsub.subset he)),?_,hs.disj.sublist hsub⟩ (ha.mono hRS (fun _ _=>rfl)) ?_
 ·rintro b (hb|hb)
  ·exact hs.rlt b hb
  ·exact HE.ok_lt (hs.ok _ hmem) hb
 ·rintro b (hb|hb)
  ·exact hs.rnew b hb
  ·exact .inr (hs.own _ hmem b hb).1
 ·intro e he b hb
  refine⟨(hs.own e (hsub.subset he) b hb).1,?_⟩
  rintro(h|h)
  ·exact(hs.own e (hsub.subset he) b hb).2 h
  ·exact hdis e he b hb h
 ·have hr':=hr.mono hRS (W':=W) (fun _ _=>rfl)
  rcases hown.2 with⟨rfl,rfl⟩|⟨g,cap,cur,rfl,hbg,hg,h1,h2,h3,h4⟩
  ·have:xs= []:=List.eq_nil_of_length_eq_zero (by rw[←hr.1,hown.1];simp)
   subst this
   exact .emp _ _ _ (fun h=>by cases h) (Nat.zero_le _)
  ·refine .ro false n xs g 0 cap (fun j=>us.getD j undef) (.inr rfl) (fun j hj=> ?_) (fun j hj=>hr'.2 j hj) h1 h2 (fun h=>by cases h)
   have hj':j<us.length:=by rw[hr.1];exact hj
   have:=hown.cells (g:=g) rfl j us[j] (by simp[hj'])
   rw[a0x]at this
   rw[this]
   simp[List.getD,hj']
theorem G.freezeCell {X:Act→World→Prop}(i j c:Nat){v:Value}{T sz n:Nat}{xs:List AV}{b T' room:Nat}{ys:List AV}(hi:H[i]? =some (.row v T sz n xs))(hj:(H.eraseIdx i)[j]? =some (.blk b T' room ys))(hc:ys[c]? =some (.val v))
  (k:G Γ E ((H.eraseIdx i).set j (.blk b T' room (ys.set c (.ro false n xs)))) X):G Γ E H X:=G.freezeK i hi fun R a W hs ha hv=>by
 obtain⟨us,cs,h1,h2,h3,h4⟩:=hs.ok _ (List.mem_of_getElem? hj)
 obtain⟨u,hu1,hu2⟩:=h4.get hc
 have hu3:=hu2.val_inv
 subst hu3
 refine k R a W (hs.setSame hj (fun b hb=>hb) ⟨us,cs,h1,h2,by rw[List.length_set];exact h3,?_⟩) ha
 have h5:=h4.set c hv
 rwa [show us.set c u=us from List.ext_getElem? fun q=>by
  rcases Nat.decEq c q with h|h
  ·rw[List.getElem?_set_ne h]
  ·subst h;rw[List.getElem?_set_self (List.getElem?_eq_some_iff.1 hu1).1,hu1]]at h5
theorem G.coeCell {X:Act→World→Prop}(j c:Nat){b T' room:Nat}{ys:List AV}{u w:AV}(hj:H[j]? =some (.blk b T' room ys))(hc:ys[c]? =some u)(hw:Coe u w)
  (k:G Γ E (H.set j (.blk b T' room (ys.set c w))) X):G Γ E H X:=fun R a W hs ha=>by
 obtain⟨us,cs,h1,h2,h3,h4⟩:=hs.ok _ (List.mem_of_getElem? hj)
 obtain⟨z,hu1,hu2⟩:=h4.get hc
 refine k R a W (hs.setSame hj (fun b hb=>hb) ⟨us,cs,h1,h2,by rw[List.length_set];exact h3,?_⟩) ha
 have h5:=h4.set c (hw R W _ hu2)
 rwa [show us.set c z=us from List.ext_getElem? fun q=>by
  rcases Nat.decEq c q with h|h
  ·rw[List.getElem?_set_ne h]
  ·subst h;rw[List.getElem?_set_self (List.getElem?_eq_some_iff.1 hu1).1,hu1]]at h5
end
section
variable {P:Program}{ops:Array Oper}{N:Nat}
structure MJ (P:Program) (Γ:Cx) (ops:Array Oper) (Hs:List HE) (K:Env→List HE→Prop) (ord:List (Nat×Bool)) (late:List Nat) (listed:Array Bool) (A:Act) (W:World) (pre ms:List (Nat×Bool)) (Pd:List Nat) (E:Env) (H:List HE) (R:Nat→Prop):Prop where
 size:listed.size=ops.size
 closed:b0C ops listed
 part: ∀i,i<ops.size→(listed.getD i false=false↔i∈Pd∨i∈ms.map Prod.fst∨i∈late)
 ord:ord=pre++ms
 pdp: ∀i∈Pd,(i,false)∈pre
 am:AM P Γ.N ops Hs K ms E H
 pend: ∀i∈Pd,∃o d v,ops[i]? =some o∧o.dst=some d∧d<Γ.N∧a0j E d=some v∧OpF P Γ.N ops o (rst E (o.looksAt ops)) Hs (Is v)
 rels:RelS Γ R (H++Hs) W
 defers:A.defers= []
 tmps:A.tmps.size=Γ.N
 act: ∀t v,a0j E t=some v→(∀i∈Pd,∀o,ops[i]? =some o→o.dst≠some t)→RelV R W v (A.eval (.tmp t))
variable {Γ:Cx}{Hs:List HE}{K:Env→List HE→Prop}{ord:List (Nat×Bool)}{late:List Nat}
theorem MJ.absorb {listed:Array Bool}{A:Act}{W:World}{R:Nat→Prop}(hok:a0H ops (c0k ops.toList []) ord=true): ∀(ms pre:List (Nat×Bool)) (Pd:List Nat) (E:Env) (H:List HE),MJ P Γ ops Hs K ord late listed A W pre ms Pd E H R→
  ∃pre' ms' Pd' E',MJ P Γ ops Hs K ord late listed A W pre' ms' Pd' E' H R∧(ms'= []∨ ∃m r,ms'=(m,true)::r)
 | [],pre,Pd,E,H,h=>⟨pre,[],Pd,E,h,.inl rfl⟩
 |(m,true)::r,pre,Pd,E,H,h=>⟨pre,_,Pd,E,h,.inr ⟨m,r,rfl⟩⟩
 | (j,false)::r,pre,Pd,E,H,h=>by
  obtain⟨o,d,v,ho,hd,hN,hop,ham⟩:=h.am
  have hord:=h.ord
  have hq:=a0g (pre:=pre) (r:=(j,false)::r) (by rw[←hord];exact hok)
  have hself:d∉o.looksAt ops:=by
   have:=hq.1
   rw[a0H]at this
   simp only[Bool.and_eq_true,ho,hd,Bool.false_or]at this
   simpa using this.1.1
  have hp: ∀i∈Pd,∀oi,ops[i]? =some oi→d∉oi.looksAt ops∧oi.dst≠some d:=fun i hi oi hoi=>by
   have:=b0b (hq.2 _ (h.pdp i hi) (j,false) (List.mem_cons_self ..)) hoi ho
   obtain⟨d',h1,h2,h3⟩:=this.flt rfl
   rw[hd]at h1
   cases h1
   exact⟨h2,h3⟩
  refine MJ.absorb hok r (pre++[(j,false)]) (j::Pd) ((d,v)::E) H ⟨h.size,h.closed,fun i hi=> ?_,by rw[hord];simp,fun i hi=> ?_,ham,fun i hi=> ?_,h.rels,h.defers,h.tmps,fun t x ht hpd=> ?_⟩
  ·rw[h.part i hi]
   simp only[List.map_cons,List.mem_cons]
   constructor
   ·rintro(h|(h|h)|h)
    ·exact .inl (.inr h)
    ·exact .inl (.inl h)
    ·exact .inr (.inl h)
    ·exact .inr (.inr h)
   ·rintro((h|h)|h|h)
    ·exact .inr (.inl (.inl h))
    ·exact .inl h
    ·exact .inr (.inl (.inr h))
    ·exact .inr (.inr h)
  ·rcases List.mem_cons.1 hi with rfl|hi
   ·simp
   ·exact List.mem_append_left _ (h.pdp i hi)
  ·rcases List.mem_cons.1 hi with rfl|hi
   ·exact⟨o,d,v,ho,hd,hN,a0X,by rw[a0M hself];exact hop⟩
   ·obtain⟨oi,di,vi,h1,h2,h3,h4,h5⟩:=h.pend i hi
    obtain⟨h6,h7⟩:=hp i hi oi h1
    refine⟨oi,di,vi,h1,h2,h3,?_,by rw[a0M h6];exact h5⟩
    rw[a0y (fun e=>h7 (by rw[h2,e]))];exact h4
  ·have hne:d≠t:=fun e=>hpd j (List.mem_cons_self ..) o ho (by rw[hd,e])
   rw[a0y hne]at ht
   exact h.act t x ht fun i hi=>hpd i (List.mem_cons_of_mem _ hi)
theorem MJ.reads {listed:Array Bool}{A:Act}{W:World}{R:Nat→Prop}{pre ms:List (Nat×Bool)}{Pd:List Nat}{E:Env}{H:List HE}(hok:a0H ops (c0k ops.toList []) ord=true)(h:MJ P Γ ops Hs K ord late listed A W pre ms Pd E H R)
  {i:Nat} {b:Bool} {o:Oper} (ho:ops[i]? =some o) (hdeps: ∀e∈o.after,Region.binds .any e=true→listed.getD e.on false=true) (hi:(i,b)∈pre∧i∈Pd∧b=false∨ ∃r,ms=(i,b)::r):RelA Γ.N R W (rst E (o.looksAt ops)) A:=by
 refine⟨h.defers,h.tmps,fun t v ht=> ?_⟩
 obtain⟨htl,ht⟩:=b0I ht
 refine h.act t v ht fun k hk ok hok' hdk=> ?_
 have hkp:=h.pdp k hk
 have hkf:listed.getD k false=false:=(h.part k (Array.getElem?_eq_some_iff.1 hok').1).2 (.inl hk)
 have direct:c0X ops (c0k ops.toList []) k false i b=true→False:=fun hp=>by
  obtain⟨e,he,hb,hon⟩:=(b0b hp hok' ho).reads t hdk htl
  have:=hdeps e he hb
  rw[hon,hkf]at this;cases this
 rcases hi with⟨hip,hiP,rfl⟩|⟨r,hms⟩
 ·
  obtain⟨p1,p2,hp12⟩:=List.append_of_mem hkp
  have hord:=h.ord
  rw[hp12,List.append_assoc]at hord
  rw[hp12]at hip
  rcases List.mem_append.1 hip with hip|hip
  ·
   have hq:=a0g (pre:=p1) (by rw[←hord];exact hok)
   have:=b0b (hq.2 _ hip (k,false) (List.mem_cons_self ..)) ho hok'
   obtain⟨d',h1,h2, -⟩:=this.flt rfl
   rw[hdk]at h1;cases h1
   exact h2 htl
  ·rcases List.mem_cons.1 hip with he|hip
   ·cases he
    have hq:=(a0g (pre:=p1) (by rw[←hord];exact hok)).1
    rw[cA,a0H]at hq
    simp only[Bool.and_eq_true]at hq
    obtain rfl:o=ok:=by rw[ho]at hok';exact Option.some.inj hok'
    have:=hq.1.1
    rw[ho]at this
    simp only[hdk,Bool.false_or]at this
    simp at this
    exact this htl
   ·rw[show p1++((k,false)::p2++ms)=(p1++[(k,false)])++(p2++ms) by simp]at hord
    have hq:=a0g (pre:=p1++[(k,false)]) (by rw[←hord];exact hok)
    exact direct (hq.2 (k,false) (by simp) (i,false) (List.mem_append_left _ hip))
 ·have hq:=a0g (pre:=pre) (r:=ms) (by rw[←h.ord];exact hok)
  exact direct (hq.2 _ hkp (i,b) (by rw[hms];exact List.mem_cons_self ..))
theorem MJ.stage {Q:Exit→Act→World→Prop}(hback: ∀i o,ops[i]? =some o→ ∀e∈o.after,Region.binds .any e=true→e.on<i)(hpairs:a0H ops (c0k ops.toList []) ord=true)(hlt: ∀q∈ord,q.1<ops.size)
  (hlate: ∀j∈late,∀q∈ord,q.1∈(c0k ops.toList []).getD j [])
  (hfin: ∀(listed:Array Bool) (A:Act) (W:World) (E:Env) (H:List HE) (R:Nat→Prop),listed.size=ops.size→b0C ops listed→(∀i,i<ops.size→(listed.getD i false=false↔i∈late))→RelS Γ R (H++Hs) W→RelA Γ.N R W E A→K E H→wpAny P .any ops Q (listed.toList.count false) listed A W):
  ∀(fuel:Nat) (listed:Array Bool) (A:Act) (W:World) (pre ms:List (Nat×Bool)) (Pd:List Nat) (E:Env) (H:List HE) (R:Nat→Prop),fuel=listed.toList.count false→
   MJ P Γ ops Hs K ord late listed A W pre ms Pd E H R→(ms= []∨ ∃m r,ms=(m,true)::r)→wpAny P .any ops Q fuel listed A W:=by
 intro fuel
 induction fuel with
 | zero=>
  intro listed A W pre ms Pd E H R hc hI hhd
  have hlist: ∀i,i<ops.size→listed.getD i false=true:=by
   intro i hi
   have hi':i<listed.size:=by rw[hI.size];exact hi
   cases hb:listed.getD i false with
   |true=>rfl
   | false=>
    exfalso
    have hm:false∈listed.toList:=by
     rw[←hb];simp[Array.getD,hi']
    have:=List.count_pos_iff.2 hm
    omega
  have hms:ms= []:=by
   rcases hhd with h|⟨m,r,h⟩
   ·exact h
   ·have h1:=hlt (m,true) (by rw[hI.ord,h];simp)
    have:=(hI.part m h1).2 (.inr (.inl (by rw[h];simp)))
    rw[hlist m h1]at this;cases this
  have hPd:Pd= []:=by
   rw[List.eq_nil_iff_forall_not_mem]
   intro i hi
   have h1:=hlt (i,false) (by rw[hI.ord];exact List.mem_append_left _ (hI.pdp i hi))
   have:=(hI.part i h1).2 (.inl hi)
   rw[hlist i h1]at this;cases this
  subst hms
  subst hPd
  rw[hc]
  exact hfin listed A W E H R hI.size hI.closed (fun i hi=>by rw[hI.part i hi];simp) hI.rels ⟨hI.defers,hI.tmps,fun t v ht=>hI.act t v ht fun i hi=>(by cases hi)⟩ hI.am
 | succ fuel ih=>
  intro listed A W pre ms Pd E H R hc hI hhd
  by_cases hemp:ms= []∧Pd= []
  ·obtain⟨rfl,rfl⟩:=hemp
   rw[hc]
   exact hfin listed A W E H R hI.size hI.closed (fun i hi=>by rw[hI.part i hi];simp) hI.rels ⟨hI.defers,hI.tmps,fun t v ht=>hI.act t v ht fun i hi=>(by cases hi)⟩ hI.am
  have hun: ∃q∈ord,listed.getD q.1 false=false:=by
   rcases hhd with h|⟨m,r,h⟩
   ·cases Pd with
    |nil=>exact absurd ⟨h,rfl⟩ hemp
    |cons p Pd=>
     have h1:(p,false)∈ord:=by rw[hI.ord];exact List.mem_append_left _ (hI.pdp p (List.mem_cons_self ..))
     exact⟨_,h1,(hI.part p (hlt _ h1)).2 (.inl (List.mem_cons_self ..))⟩
   ·have h1:(m,true)∈ord:=by rw[hI.ord,h];simp
    exact⟨_,h1,(hI.part m (hlt _ h1)).2 (.inr (.inl (by rw[h];simp)))⟩
  have hne: ∃i,i∈Region.ready .any ops listed:=by
   have hex: ∃i,i<ops.size∧listed.getD i false=false:=by
    have hpos:0<listed.toList.count false:=by omega
    obtain⟨i,hi,hf⟩:=List.getElem_of_mem (List.count_pos_iff.1 hpos)
    have hi':i<listed.size:=by simpa using hi
    exact⟨i,by rw[←hI.size];exact hi',by simpa[Array.getD,hi']using hf⟩
   obtain⟨i,⟨hi,hf⟩,hmin⟩: ∃i,(i<ops.size∧listed.getD i false=false)∧ ∀j,j<i→ ¬(j<ops.size∧listed.getD j false=false):=by
    obtain⟨i,h⟩:=hex
    exact n0q ⟨i,h⟩
   have hio:ops[i]? =some ops[i]:=by simp[hi]
   refine⟨i,mem_ready.2 ⟨by rw[b0h (by rw[hI.size];exact hi)];exact hf,_,hio,fun e he hb=> ?_⟩⟩
   have:=hback i _ hio e he hb
   cases hb2:listed.getD e.on false with
   |true=>rfl
   |false=>exact absurd ⟨by omega,hb2⟩ (hmin e.on this)
  refine⟨fun e=>(by obtain⟨i,hi⟩:=hne;rw[e]at hi;cases hi),fun i hi=> ?_⟩
  obtain⟨h0,o,ho,hdeps⟩:=mem_ready.1 hi
  have hio:i<ops.size:=(Array.getElem?_eq_some_iff.1 ho).1
  have hf:listed.getD i false=false:=by rw[←b0h (by rw[hI.size];exact hio)];exact h0
  have hil:i<listed.size:=by rw[hI.size];exact hio
  have hanc: ∀j,j∈(c0k ops.toList []).getD i []→listed.getD j false=true:=fun j hj=>d0i hI.closed hback i o ho hdeps j hj
  have hcl:=c0i hI.closed ho hil hdeps
  have hcnt:fuel=(listed.setIfInBounds i true).toList.count false:=by
   have hcs:=a0R listed.toList i (by simpa using hil) (by simpa[Array.getD,hil]using hf)
   simp only[Array.toList_setIfInBounds]
   omega
  have hgd: ∀k,k≠i→(listed.setIfInBounds i true).getD k false=listed.getD k false:=fun k hk=>getD_set_ne false (Ne.symm hk)
  have hgi:(listed.setIfInBounds i true).getD i false=true:=by simp[Array.getD,hil]
  have hsz:(listed.setIfInBounds i true).size=ops.size:=by simpa using hI.size
  have hnl:i∉late:=fun h=>by
   obtain⟨q,hq,hqf⟩:=hun
   have:=hanc q.1 (hlate i h q hq)
   rw[hqf]at this;cases this
  rcases(hI.part i hio).1 hf with hPd|hms|hlt'
  ·
   obtain⟨o',d,v,ho',hd,hN,hlk,hop⟩:=hI.pend i hPd
   obtain rfl:o=o':=by rw[ho]at ho';exact Option.some.inj ho'
   have hA:=hI.reads hpairs ho hdeps (b:=false) (.inl ⟨hI.pdp i hPd,hPd,rfl⟩)
   have hs:=hop R A W hI.rels.rlt (fun e he=>hI.rels.ok e (List.mem_append_right _ he)) (fun e he b hb=>(hI.rels.own e (List.mem_append_right _ he) b hb).2) hA
   have hnext: ∀u W',(∃v' Hn R',Is v v' Hn∧Post1 R W v' Hn u W' R')→wpAny P .any ops Q fuel (listed.setIfInBounds i true) (A.put o.dst u) W':=by
    rintro u W' ⟨v',Hn,R',⟨rfl,rfl⟩,hp⟩
    have hnm:i∉ms.map Prod.fst:=fun hm=>by
     obtain⟨⟨j,c⟩,hq,hji⟩:=List.mem_map.1 hm
     have hq2:=(a0g (pre:=pre) (r:=ms) (by rw[←hI.ord];exact hpairs)).2 _ (hI.pdp i hPd) _ hq
     simp only at hji
     subst hji
     exact(b0b hq2 ho ho).ne rfl
    refine ih _ _ _ pre ms (Pd.filter (· ≠i)) E H R' hcnt ⟨hsz,hcl,fun k hk=> ?_,hI.ord,fun k hk=>hI.pdp k (List.mem_filter.1 hk).1,hI.am,fun k hk=>hI.pend k (List.mem_filter.1 hk).1,by simpa using hI.rels.step hp,?_,?_,fun t x ht hpd=> ?_⟩ hhd
    ·by_cases hki:k=i
     ·subst hki
      rw[hgi]
      simp[hnm,hnl]
     ·rw[hgd k hki,hI.part k hk]
      simp[hki]
    ·rw[hd];exact hI.defers
    ·rw[hd];simp[Act.put,hI.tmps]
    ·rw[hd]
     by_cases hdt:d=t
     ·subst hdt
      rw[hlk]at ht
      cases ht
      rw[a0z (by rw[hI.tmps];exact hN)];exact hp.val
     ·rw[a0k hdt]
      refine(hI.act t x ht fun k hk ok hok hdk=> ?_).mono hp.sub (d0d hp.ext hI.rels.rlt)
      by_cases hki:k=i
      ·subst hki
       rw[ho]at hok
       cases hok
       rw[hd]at hdk
       cases hdk
       exact hdt rfl
      ·exact hpd k (List.mem_filter.2 ⟨hk,by simpa using hki⟩) ok hok hdk
   unfold wpOp
   rw[ho]
   unfold e0y at hs
   show if Region.wanted o (yielded ops A.tmps)=true then _ else _
   split
   ·rename_i hw
    rw[if_pos hw]at hs
    refine .inl (Oper.wp_mono ?_ (b0w hs))
    rintro A' W' ⟨u,rfl,hp⟩
    exact hnext u W' hp
   ·rename_i hw
    rw[if_neg hw]at hs
    exact hnext _ _ hs
  ·
   rcases hhd with rfl|⟨m,r,rfl⟩
   ·cases hms
   have hmlt:m<ops.size:=by have:=hlt (m,true) (by rw[hI.ord];simp);exact this
   have hmf:listed.getD m false=false:=(hI.part m hmlt).2 (.inr (.inl (by simp)))
   have him:i=m:=by
    rcases List.mem_cons.1 hms with h|h
    ·exact h
    ·exfalso
     obtain⟨⟨j,c⟩,hq,hji⟩:=List.mem_map.1 h
     simp only at hji
     subst hji
     have h9:=(a0g (pre:=pre++[(m,true)]) (r:=r) (by have:=hI.ord;rw[List.append_assoc,List.singleton_append,←this];exact hpairs)).2 (m,true) (by simp) _ hq
     have hom:ops[m]? =some ops[m]:=by simp[hmlt]
     have:=hanc m ((b0b h9 hom ho).main rfl)
     rw[hmf]at this;cases this
   subst him
   obtain⟨o',ho',hAO⟩:=hI.am
   obtain rfl:o=o':=by rw[ho]at ho';exact Option.some.inj ho'
   have hA:=hI.reads hpairs ho hdeps (b:=true) (.inr ⟨r,rfl⟩)
   have hs:=hAO W R R A W ⟨Mods.refl _ _,hI.rels.rlt,fun _ h=>h,fun _ h=> .inl h,fun e he=>hI.rels.ok e (List.mem_append_left _ he),fun e he b hb=>⟨.inr ⟨e,he,hb⟩,(hI.rels.own e (List.mem_append_left _ he) b hb).2⟩,(List.pairwise_append.1 hI.rels.disj).1⟩ hA
   have hnext: ∀u W',QS ⟨W,a0t H,R,Γ.N⟩ o.dst (fun v H'=>AM P Γ.N ops Hs K r (b0d o.dst v E) H') .normal (A.put o.dst u) W'→wpAny P .any ops Q fuel (listed.setIfInBounds i true) (A.put o.dst u) W':=by
    rintro u W' ⟨hdf,v,H',R',ham,hsr,hvr⟩
    obtain⟨hrel,hRW⟩:=RelS.part hI.rels hsr
    have hpd: ∀k∈Pd,∀ok,ops[k]? =some ok→ ∀d,o.dst=some d→d∉ok.looksAt ops∧ok.dst≠some d:=fun k hk ok hok d hd=>by
     have h9:=(a0g (pre:=pre) (r:=(i,true)::r) (by rw[←hI.ord];exact hpairs)).2 _ (hI.pdp k hk) (i,true) (List.mem_cons_self ..)
     have hkf:listed.getD k false=false:=(hI.part k (Array.getElem?_eq_some_iff.1 hok).1).2 (.inl hk)
     have hno:k∉(c0k ops.toList []).getD i []:=fun hm=>by
      have:=hanc k hm
      rw[hkf]at this;cases this
     exact⟨fun hm=>hno ((b0b h9 hok ho).mn rfl d hd (.inl hm)),fun he=>hno ((b0b h9 hok ho).mn rfl d hd (.inr he))⟩
    have hnr:i∉r.map Prod.fst:=fun hm=>by
     obtain⟨⟨j,c⟩,hq,hji⟩:=List.mem_map.1 hm
     have h9:=(a0g (pre:=pre++[(i,true)]) (r:=r) (by have:=hI.ord;rw[List.append_assoc,List.singleton_append,←this];exact hpairs)).2 (i,true) (by simp) _ hq
     simp only at hji
     subst hji
     exact(b0b h9 ho ho).ne rfl
    have hnp:i∉Pd:=fun hk=>by
     have h9:=(a0g (pre:=pre) (r:=(i,true)::r) (by rw[←hI.ord];exact hpairs)).2 _ (hI.pdp i hk) (i,true) (List.mem_cons_self ..)
     exact(b0b h9 ho ho).ne rfl
    have hI':MJ P Γ ops Hs K ord late (listed.setIfInBounds i true) (A.put o.dst u) W' (pre++[(i,true)]) r Pd (b0d o.dst v E) H' R':=by
     refine⟨hsz,hcl,fun k hk=> ?_,by rw[hI.ord];simp,fun k hk=>List.mem_append_left _ (hI.pdp k hk),ham,fun k hk=> ?_,hrel,hdf,?_,fun t x ht hp=> ?_⟩
     ·by_cases hki:k=i
      ·subst hki
       rw[hgi]
       simp[hnr,hnp,hnl]
      ·rw[hgd k hki,hI.part k hk]
       simp[hki]
     ·obtain⟨ok,dk,vk,h1,h2,h3,h4,h5⟩:=hI.pend k hk
      refine⟨ok,dk,vk,h1,h2,h3,?_,?_⟩
      ·cases hd:o.dst with
       |none=>exact h4
       |some d=>rw[b0d,a0y (fun e=>(hpd k hk ok h1 d hd).2 (by rw[h2,e]))];exact h4
      ·cases hd:o.dst with
       |none=>exact h5
       |some d=>rw[b0d,a0M (hpd k hk ok h1 d hd).1];exact h5
     ·cases hd:o.dst<;>simp[Act.put,hI.tmps]
     ·cases hd:o.dst with
      |none=>
       rw[hd]at ht
       exact(hI.act t x ht hp).mono hsr.rsub hRW
      | some d=>
       rw[hd,b0d]at ht
       by_cases hdt:d=t
       ·subst hdt
        rw[a0X]at ht
        cases ht
        have:=hvr d hd
        rwa [hd]at this
       ·rw[a0y hdt]at ht
        rw[a0k hdt]
        exact(hI.act t x ht hp).mono hsr.rsub hRW
    obtain⟨pre',ms',Pd',E',hI2,hh2⟩:=hI'.absorb hpairs
    exact ih _ _ _ pre' ms' Pd' E' H' R' hcnt hI2 hh2
   unfold wpOp
   rw[ho]
   unfold wpList at hs
   show if Region.wanted o (yielded ops A.tmps)=true then _ else _
   split
   ·rename_i hw
    rw[if_pos hw]at hs
    refine .inl ?_
    rcases hs with hs|⟨-,a',w',hl⟩
    ·have hs2:o.wp P A W (wpList P ops (QS ⟨W,a0t H,R,Γ.N⟩ o.dst (fun v H'=>AM P Γ.N ops Hs K r (b0d o.dst v E) H')) []) NoQ:=by
      unfold Oper.wp at hs⊢
      revert hs
      cases(execOp A.eval o).run P W with
      | ok n w'=>
       cases n with
       |enter f args=>
        intro hs
        refine Calls.mono hs ?_
        intro e w'' he
        cases e with
        |returned v=>exact he
        |outgrown=>obtain⟨a',w',hl⟩:=he;exact hl.elim
        |_=>exact he.elim
       |_=>exact fun h=>h
      |halt x w'=>cases x<;>exact fun h=>h
     refine Oper.wp_mono ?_ (b0w (Oper.wp_put hs2))
     rintro A' W' ⟨hq,hA'⟩
     have hq':QS ⟨W,a0t H,R,Γ.N⟩ o.dst (fun v H'=>AM P Γ.N ops Hs K r (b0d o.dst v E) H') .normal A' W':=hq
     rcases hA' with⟨u,rfl⟩|hnd
     ·exact hnext u W' hq'
     ·exact absurd hq'.1 hnd
    ·exact hl.elim
   ·rename_i hw
    rw[if_neg hw]at hs
    exact hnext _ _ hs
  ·exact absurd hlt' hnl
def AMS (P:Program)(N:Nat)(ops:Array Oper)(K:Env→List HE→Prop):List (List (Nat×Bool))→Env→List HE→Prop
 | [],E,H=>K E H
 |ord::r,E,H=> ∃Hm Hs,c0v E H Hm Hs∧AM P N ops Hs (fun E' H'=>AMS P N ops K r E' (H'++Hs)) ord E Hm
theorem AMS.go {ord:List (Nat×Bool)}{r:List (List (Nat×Bool))}{E:Env}{H Hm Hs:List HE}(hH:c0v E H Hm Hs)(h:AM P N ops Hs (fun E' H'=>AMS P N ops K r E' (H'++Hs)) ord E Hm):AMS P N ops K (ord::r) E H:=⟨Hm,Hs,hH,h⟩
theorem AMS.nil {E:Env}{H:List HE}(h:K E H):AMS P N ops K [] E H:=h
def d0z (ops:Array Oper)(an:List (List Nat)):List (List (Nat×Bool))→Bool
 | []=>true
 |ord::r=>a0H ops an ord&&(ord.all fun q=>decide (q.1<ops.size))&&(r.all fun s=>s.all fun j=>ord.all fun q=>(an.getD j.1 []).contains q.1)&&d0z ops an r
def f0W (ops:Array Oper)(os:List (List (Nat×Bool))):Bool:=
 ((List.range ops.size).all fun i=>os.any fun ord=>ord.any fun q=>q.1==i)&&
 ((List.range ops.size).all fun i=>(ops[i]?).all fun o=>o.after.all fun e=> !Region.binds .any e||decide (e.on<i))&&d0z ops (c0k ops.toList []) os
theorem AMS.run {Q:Exit→Act→World→Prop}(hback: ∀i o,ops[i]? =some o→ ∀e∈o.after,Region.binds .any e=true→e.on<i): ∀(os:List (List (Nat×Bool))),d0z ops (c0k ops.toList []) os=true→
  ∀(listed:Array Bool) (A:Act) (W:World) (E:Env) (H:List HE) (R:Nat→Prop),listed.size=ops.size→b0C ops listed→(∀i,i<ops.size→(listed.getD i false=false↔i∈(os.flatten).map Prod.fst))→RelS Γ R H W→RelA Γ.N R W E A→
   AMS P Γ.N ops (fun E' H'=>AQ Γ Q .normal E' H') os E H→wpAny P .any ops Q (listed.toList.count false) listed A W
 | [],_,listed,A,W,E,H,R,hsz,hcl,hpt,hs,ha,h=>by
  have hlist: ∀i,i<ops.size→listed.getD i false=true:=by
   intro i hi
   cases hb:listed.getD i false with
   |true=>rfl
   |false=>have:=(hpt i hi).1 hb;cases this
  have h0:listed.toList.count false=0:=by
   rw[List.count_eq_zero]
   intro hm
   obtain⟨i,hi,hf⟩:=List.getElem_of_mem hm
   have hi':i<listed.size:=by simpa using hi
   have:=hlist i (by rw[←hsz];exact hi')
   rw[show listed.getD i false=listed[i] by simp[Array.getD,hi']]at this
   rw[show listed.toList[i]=listed[i] by simp,this]at hf
   cases hf
  rw[h0]
  refine⟨?_,h R A W hs ha⟩
  rw[List.eq_nil_iff_forall_not_mem]
  intro i hi
  obtain⟨h0,o,ho,_⟩:=mem_ready.1 hi
  have hi':i<ops.size:=(Array.getElem?_eq_some_iff.1 ho).1
  have:=hlist i hi'
  rw[←b0h (by rw[hsz];exact hi')]at this
  rw[this]at h0;cases h0
 | ord::os,hok,listed,A,W,E,H,R,hsz,hcl,hpt,hs,ha,h=>by
  rw[d0z]at hok
  simp only[Bool.and_eq_true,List.all_eq_true,cQ,List.contains_eq_mem]at hok
  obtain⟨⟨⟨hp,hlt⟩,hlate⟩,hrest⟩:=hok
  obtain⟨Hm,Hs,hH,hAM⟩:=h
  have hI:MJ P Γ ops Hs (fun E' H'=>AMS P Γ.N ops (fun E' H'=>AQ Γ Q .normal E' H') os E' (H'++Hs)) ord (os.flatten.map Prod.fst) listed A W [] ord [] E Hm R:=by
   refine⟨hsz,hcl,fun i hi=> ?_,rfl,fun i hi=>(by cases hi),hAM,fun i hi=>(by cases hi),hs.perm hH.symm,ha.defers,ha.size,fun t v ht _=>ha.slots t v ht⟩
   rw[hpt i hi]
   simp
  obtain⟨pre',ms',Pd',E',hI2,hh2⟩:=hI.absorb hp
  refine MJ.stage hback hp hlt (fun j hj q hq=> ?_) (fun listed A W E H R h1 h2 h3 h4 h5 h6=>AMS.run hback os hrest listed A W E _ R h1 h2 h3 h4 h5 h6) _ listed A W pre' ms' Pd' E' Hm R rfl hI2 hh2
  obtain⟨x,hx,rfl⟩:=List.mem_map.1 hj
  obtain⟨s,hs1,hs2⟩:=List.mem_flatten.1 hx
  exact hlate s hs1 x hs2 q hq
theorem AW.regionS {Q:Exit→Act→World→Prop}{E:Env}{H:List HE}{id:Nat}{l:List Oper}(os:List (List (Nat×Bool)))(hm:P.follows .mixedOrders=true)(hok:f0W l.toArray os=true)
  (h:AMS P Γ.N l.toArray (fun E' H'=>AQ Γ Q .normal E' H') os E H):AW Γ P Q (.region id l.toArray true) E H:=fun R a W hs0 ha0=>by
 obtain⟨ops,hops⟩: ∃ops,ops=l.toArray:=⟨_,rfl⟩
 rw[←hops]at h hok
 simp only[f0W,Bool.and_eq_true,List.all_eq_true,List.mem_range]at hok
 obtain⟨⟨hall,hbk⟩,hst⟩:=hok
 have hback: ∀i o,ops[i]? =some o→ ∀e∈o.after,Region.binds .any e=true→e.on<i:=fun i o ho e he hb=>by
  have hi:i<ops.size:=(Array.getElem?_eq_some_iff.1 ho).1
  have:=hbk i hi
  rw[ho]at this
  simp only[Option.all_some]at this
  have:=Array.all_eq_true_iff_forall_mem.1 this e he
  simpa[hb]using this
 have hs:RelS Γ R H W.drew:=⟨hs0.mods.drew,hs0.rlt,hs0.rsub,hs0.rnew,fun e he=>HE.ok_mono (W:=W) (W':=W.drew) (fun _ h=>h) (fun _ _=>rfl) (Nat.le_refl _) (fun _ _=>rfl) (hs0.ok e he),hs0.own,hs0.disj⟩
 have ha:RelA Γ.N R W.drew E a:=ha0.mono (fun _ h=>h) (fun _ _=>rfl)
 refine wp_region_any hm ?_
 rw[←hops]
 have hc:(Array.replicate ops.size false).toList.count false=ops.size:=by simp
 have:=AMS.run (Γ:=Γ) hback os hst (Array.replicate ops.size false) a W.drew E H R (by simp) (fun i o hl=>by
  exfalso
  by_cases h:i<ops.size<;>simp[Array.getD,h]at hl) (fun i hi=>by
   have:=hall i hi
   simp only[List.any_eq_true,beq_iff_eq]at this
   obtain⟨ord,ho,q,hq,hqi⟩:=this
   constructor
   ·intro _
    exact List.mem_map.2 ⟨q,List.mem_flatten.2 ⟨ord,ho,hq⟩,hqi⟩
   ·intro _
    simp[Array.getD,hi]) hs ha h
 rw[hc]at this
 exact this
end
section
variable {Γ:Cx}{P:Program}{ops:Array Oper}{Q:Exit→Act→World→Prop}{E:Env}{H:List HE}{o:Oper}{rest:List Oper}
theorem g0Y {W:World}{b k:Nat}{cs:Array Value}{U:TypeId}(hb:W.heap[b]? =some (.cells cs U (0,0))):
  (W.freeze ⟨b,k,none⟩ 1).heap[b]? =some (.cells cs U (k,k+1))∧(∀q,q≠b→(W.freeze ⟨b,k,none⟩ 1).heap[q]? =W.heap[q]?)∧(W.freeze ⟨b,k,none⟩ 1).heap.size=W.heap.size:=by
 obtain⟨hlt,he⟩:=Array.getElem?_eq_some_iff.1 hb
 unfold World.freeze
 rw[if_neg (by decide)]
 refine⟨?_,fun q hq=> ?_,by simp⟩
 ·simp[Array.getElem?_modify,hb]
 ·simp[Array.getElem?_modify,Ne.symm hq]
theorem AO.constBytes {T U d i b room c n:Nat}{x:Operand}{xs:List AV}{l:List UInt8}[hT:TyD P T (.slice U)][hU:TyD P U (.int .u8)](ho:o.op= .convert T T x)(hgd:o.guard=none)(hd:o.dst=some d)(hN:d<Γ.N)
  (hx:ev E x=some (.val (.slice (some ⟨b,0,none⟩) n c))) (hi:H[i]? =some (.blk b U room xs)) (hl:xs=a0a l) (hn:n=l.length) (hc:n≤c∧c≤maxLen) (next:AO Γ P ops Q rest ((d,roB l)::E) (H.eraseIdx i)):AO Γ P ops Q (o::rest) E H:=fun R a W hs ha=>by
 have hmem:=List.mem_of_getElem? hi
 obtain⟨hlt,he⟩:=List.getElem?_eq_some_iff.1 hi
 obtain⟨us,cs,hb,hsz,ht,hr⟩:=hs.ok _ hmem
 obtain⟨f1,f2,f3⟩:=g0Y (k:=cs.size) hb
 have hsh:W.shape? b=some (U,cs.size):=by unfold World.shape?;rw[hb]
 have hrun:(execOp a.eval o).run P W= .ok (.value (.slice (some ⟨b,0,none⟩) n c)) (W.freeze ⟨b,cs.size,none⟩ 1):=by
  simp[execOp,ho,(ha.ev hx).val_inv,convert,run_underlying hT.ax,run_underlying hU.ax,markStringish,hsh]
 have hbR: ¬R b:=(hs.own _ hmem b rfl).2
 have hm:Mods (fun q=>q=b) W (W.freeze ⟨b,cs.size,none⟩ 1):=⟨by unfold World.freeze;rw[if_neg (by decide)],by unfold World.freeze;rw[if_neg (by decide)],by unfold World.freeze;rw[if_neg (by decide)],by rw[f3];exact Nat.le_refl _,fun q hq hqb=>f2 q hqb⟩
 have hW: ∀q,R q→(W.freeze ⟨b,cs.size,none⟩ 1).heap[q]? =W.heap[q]? :=fun q hq=>f2 q fun e=>hbR (e▸hq)
 have hRS: ∀q,R q→R q∨q=b:=fun q h=> .inl h
 have hsub:(H.eraseIdx i).Sublist H:=List.eraseIdx_sublist _ _
 have hdis: ∀f∈H.eraseIdx i,∀q,f.foot q→q≠b:=fun f hf q hq hqb=>by
  obtain⟨j,hj,rfl⟩:=List.getElem_of_mem hf
  rw[List.getElem_eraseIdx]at hq
  rw[List.length_eraseIdx,if_pos hlt]at hj
  split at hq
  ·exact(List.pairwise_iff_getElem.1 hs.disj j i (by omega) hlt (by omega)) q hq (by rw[he];exact hqb)
  ·exact(List.pairwise_iff_getElem.1 hs.disj i (j+1) hlt (by omega) (by omega)) q (by rw[he];exact hqb) hq
 unfold wpList
 rw[if_pos (by unfold Region.wanted;rw[hgd])]
 refine .inl ?_
 unfold Oper.wp
 rw[hrun]
 show wpList P ops Q rest (a.put o.dst _) _
 rw[hd]
 refine next (fun q=>R q∨q=b) _ _ ⟨Mods.then hs.mods hm fun q hq hqb=> ?_,?_,fun q hq=> .inl (hs.rsub q hq),?_,fun e he=>HE.ok_mono hRS hW (by rw[f3];exact Nat.le_refl _) (fun q hq=>f2 q (hdis e he q hq)) (hs.ok e (hsub.subset he)),?_,hs.disj.sublist hsub⟩ ((ha.mono hRS hW).put hN ?_)
 ·rcases(hs.own _ hmem b rfl).1 with h|h
  ·omega
  ·rw[hqb];exact h
 ·rintro q (hq|hq)
  ·rw[f3];exact hs.rlt q hq
  ·rw[f3,hq];exact(Array.getElem?_eq_some_iff.1 hb).1
 ·rintro q (hq|hq)
  ·exact hs.rnew q hq
  ·exact .inr (hq▸(hs.own _ hmem b rfl).1)
 ·intro e he q hq
  refine⟨(hs.own e (hsub.subset he) q hq).1,?_⟩
  rintro(h|h)
  ·exact(hs.own e (hsub.subset he) q hq).2 h
  ·exact hdis e he q hq h
 ·subst hl;subst hn
  have hlen:us.length=l.length:=by rw[hr.1];simp[a0a]
  unfold roB
  refine .ro false l.length (a0a l) b 0 c (fun j=>us.getD j undef) (.inr rfl) (fun j hj=> ?_) (fun j hj=>(hr.mono hRS hW).2 j hj) hc.1 hc.2 (fun h=>by cases h)
  have hj':j<us.length:=by rw[hlen];simpa[a0a]using hj
  have h9:us[j]? =cs[j]? :=by
   rw[←ht,List.getElem?_take,if_pos (by simpa[a0a]using hj)];simp
  simp only[World.cell?,f1,Nat.zero_add]
  have h10:cs[j]? =some us[j]:=by rw[←h9];simp[hj']
  simpa[hj']using h10
end
section
variable {P:Program}{E:Env}{H:List HE}{N:Nat}{o:Oper}
end
section
variable {Γ:Cx}{P:Program}{Q:Exit→Act→World→Prop}{E:Env}{H:List HE}{N:Nat}{o:Oper}{ops:Array Oper}{rest:List Oper}
theorem CoeL.app {a b x y:List AV}(h:CoeL a b)(k:CoeL x y):CoeL (a++x) (b++y):=fun R W us hu=>by
 induction a generalizing b us with
 | nil=>
  have hb:b= []:=by
   have:=(h R W [] RelL.nil).1
   exact List.eq_nil_of_length_eq_zero this.symm
  subst hb
  exact k R W us hu
 |cons u a ih=>
  have h1:us.take (a.length+1)++us.drop (a.length+1)=us:=List.take_append_drop ..
  have h2:=hu.take (a.length+1)
  have h3:=hu.drop (a.length+1)
  rw[show((u::a)++x).take (a.length+1)=u::a by simp]at h2
  rw[show((u::a)++x).drop (a.length+1)=x by simp]at h3
  rw[←h1]
  exact RelL.app (h R W _ h2) (k R W _ h3)
theorem Coe.ro {full:Bool}{n:Nat}{xs ys:List AV}(h:CoeL xs ys):Coe (.ro full n xs) (.ro full n ys):=fun R W u hu=>by
 cases hu with
 |emp _ a cap h1 h2=>
  have hy:ys= []:=List.eq_nil_of_length_eq_zero (h R W [] RelL.nil).1.symm
  subst hy
  exact .emp _ a cap h1 h2
 |ro _ _ _ b off cap us hb hc hr h1 h2 h3=>
  have hl:RelL R W xs ((List.range xs.length).map us):=⟨by simp,fun j hj=>by simpa[hj]using hr j hj⟩
  have hk:=h R W _ hl
  have he:ys.length=xs.length:=by have:=hk.1;simpa using this.symm
  refine .ro _ _ _ b off cap us hb (fun j hj=>hc j (by omega)) (fun j hj=> ?_) h1 h2 h3
  have:=hk.2 j hj
  rw[he]at hj
  simpa[hj]using this
theorem G.coeRow {X:Act→World→Prop}(i:Nat){v:Value}{T sz n:Nat}{xs:List AV}(m:Nat)(ys:List AV)(hi:H[i]? =some (.row v T sz n xs))(hm:n=m)(h:CoeL xs ys)(k:G Γ E (H.set i (.row v T sz m ys)) X):G Γ E H X:=fun R a W hs ha=>by
 subst hm
 obtain⟨us,h1,h2⟩:=hs.ok _ (List.mem_of_getElem? hi)
 exact k R a W (hs.setSame hi (fun b hb=>hb) ⟨us,h1,h R W us h2⟩) ha
def n0V (k:Nat):Nat→List (Nat×AV)→Option (List AV)
 |_,[]=>some []
 |i,(j,v)::r=>bif Nat.beq j i&&Nat.beq v.cells.length k then(match n0V k (i+1) r with|some ys=>some (v.cells++ys)|none=>none)else none
theorem e0I: ∀(cs pre zs:List AV),cs.length≤zs.length→a0c (pre++zs) pre.length cs=pre++cs++zs.drop cs.length
 | [],pre,zs,h=>by simp[a0c]
 |c::cs,pre,[],h=>by simp at h
 |c::cs,pre,z::zs,h=>by
  rw[a0c,show(pre++z::zs).set pre.length c=(pre++[c])++zs by simp,show pre.length+1=(pre++[c]).length by simp,e0I cs (pre++[c]) zs (by simpa using h)]
  simp
theorem h0M {k:Nat}: ∀(ps:List (Nat×AV)) (i:Nat) (pre zs ys:List AV),n0V k i ps=some ys→pre.length=i*k→zs.length=ps.length*k→c0n (fun i=>some (i*k,k)) (pre++zs) ps=some (pre++ys)
 | [],i,pre,zs,ys,h,h1,h2=>by
  have:zs= []:=List.eq_nil_of_length_eq_zero (by simpa using h2)
  subst this
  cases h
  rfl
 | (j,v)::r,i,pre,zs,ys,h,h1,h2=>by
  rw[n0V]at h
  cases hc:(Nat.beq j i&&Nat.beq v.cells.length k)with
  |false=>rw[hc]at h;cases h
  | true=>
   rw[hc]at h
   simp only[Bool.and_eq_true]at hc
   have hj:=Nat.eq_of_beq_eq_true hc.1
   have hk:=Nat.eq_of_beq_eq_true hc.2
   subst hj
   cases hr:n0V k (j+1) r with
   |none=>rw[hr]at h;cases h
   | some ys'=>
    rw[hr]at h
    cases h
    have hz:v.cells.length≤zs.length:=by rw[h2,hk,cL,Nat.add_mul];omega
    unfold c0n
    simp only
    have hb:(Nat.beq v.cells.length k&&Nat.ble (j*k+v.cells.length) (pre++zs).length)=true:=by
     simp only[Bool.and_eq_true]
     exact⟨hc.2,Nat.ble_eq_true_of_le (by rw[cH,h1];omega)⟩
    rw[hb]
    show c0n _ (a0c (pre++zs) (j*k) v.cells) r=_
    rw[←h1,e0I _ _ _ hz]
    have:=h0M r (j+1) (pre++v.cells) (zs.drop v.cells.length) ys' hr (by rw[cH,h1,hk,Nat.add_mul];omega) (by rw[List.length_drop,h2,hk,cL,Nat.add_mul];omega)
    rw[this,List.append_assoc]
theorem O.buildSliceF {T U k bs n:Nat}{z:Value}{parts:List (Nat×Operand)}{ps:List (Nat×AV)}{ys:List AV}[hs:TyS P T U k bs z](ho:o.op= .buildSlice T n parts.toArray)(hx:evp E parts=some ps)(h1:d0T ps=true)
  (hsm:Nat.ble (n*k) 16777216=true) (hpos:Nat.ble 1 (n*k)=true) (hzk:Nat.beq z.cells.size k=true) (hn:Nat.beq ps.length n=true) (hy:n0V k 0 ps=some ys):OpW P N o E H (a0S (fun b=> .val (.slice (some ⟨b,0,none⟩) n n)) U (n*k) ys):=
 O.buildSlice ho hx h1 hsm hpos hzk (by
  have:=h0M ps 0 [] (a0o n z) ys hy (by simp) (by
   have hzl:(z.cells.toList.map AV.val).length=k:=by rw[List.length_map,Array.length_toList];exact Nat.eq_of_beq_eq_true hzk
   rw[Nat.eq_of_beq_eq_true hn,a0o,List.length_flatten,List.map_replicate,hzl];simp)
  simpa using this)
theorem yS {T U k bs n:Nat}{z:Value}{parts:List (Nat×Operand)}{ps:List (Nat×AV)}{ys:List AV}(ho:o.op= .buildSlice T n parts.toArray:=by exact rfl)(hs:TyS P T U k bs z:=by infer_instance)(hx:evp E parts=some ps:=by exact rfl)(h1:d0T ps=true:=by exact rfl)(hsm:Nat.ble (n*k) 16777216=true:=by rfl)(hpos:Nat.ble 1 (n*k)=true:=by rfl)(hzk:Nat.beq z.cells.size k=true:=by rfl)(hn:Nat.beq ps.length n=true:=by rfl)(hy:n0V k 0 ps=some ys:=by rfl):OpW P N o E H (a0S (fun b=> .val (.slice (some ⟨b,0,none⟩) n n)) U (n*k) ys):=O.buildSliceF ho hx h1 hsm hpos hzk hn hy
theorem OpW.frzR {U k n:Nat}{ys:List AV}(h:OpW P N o E H (b0q U k n ys)):OpW P N o E H (Is (.ro false n ys)):=fun R a W h1 h2 h3 h4=>by
 refine Oper.wp_mono ?_ (h R a W h1 h2 h3 h4)
 rintro A' W' ⟨u,v,Hn,R',rfl,⟨v0,rfl,hv0,rfl⟩,p⟩
 obtain⟨hok,hfo⟩:=p.ok _ (List.mem_cons_self ..)
 have hu:=p.val.val_inv
 subst hu
 have hok':=hok
 obtain⟨us,hown,hr⟩:=hok
 refine⟨_,.ro false n ys,[],fun c=>R' c∨(HE.row u U k n ys).foot c,rfl,⟨rfl,rfl⟩,p.ext,fun c hc=> .inl (p.sub c hc),fun c hc=> ?_,?_,fun _ he=>(by cases he),.nil⟩
 ·rcases hc with hc|hc
  ·exact p.new c hc
  ·exact .inr ⟨(hfo _ hc).1,HE.ok_lt hok' hc⟩
 ·have hr':=hr.mono (R':=fun c=>R' c∨(HE.row u U k n ys).foot c) (fun _ h=> .inl h) (W':=W') (fun _ _=>rfl)
  rcases hown.2 with⟨rfl,rfl⟩|⟨g,cap,cur,rfl,hbg,hg,h1,h2,h3,h4⟩
  ·have:ys= []:=List.eq_nil_of_length_eq_zero (by rw[←hr.1,hown.1];simp)
   subst this
   exact .emp _ _ _ (fun h=>by cases h) (Nat.zero_le _)
  ·refine .ro false n ys g 0 cap (fun j=>us.getD j undef) (.inr rfl) (fun j hj=> ?_) (fun j hj=>hr'.2 j hj) h1 h2 (fun h=>by cases h)
   have hj':j<us.length:=by rw[hr.1];exact hj
   have:=hown.cells (g:=g) rfl j us[j] (by simp[hj'])
   rw[a0x]at this
   rw[this]
   simp[List.getD,hj']
theorem y8 {U k n:Nat}{ys:List AV}(h:OpW P N o E H (b0q U k n ys):=by exact(O.appendNil rfl (by rfl) (by rfl) rfl rfl (by exact SrcA.ro TyD.ax (by(simp;done)) (lB rfl)) (by(simp[AV.cells,AV.one, *];done)) (by(unfold maxLen;omega)) (by omega))):OpW P N o E H (Is (.ro false n ys)):=OpW.frzR h
def j0s (tmps:Array Value):ResultVar→Sem Value
 | .tmp t=>pure (tmps.getD t undef)
 | .cell a t=>do loadVar t (←asAddr (tmps.getD a undef))
theorem e0N (fn:Func)(tmps:Array Value):results fn tmps=(do
  let vs←fn.results.mapM (j0s tmps)
  pure (if h:vs.size=1 then vs[0]else .tuple vs)):=by
 unfold results
 congr 1
def ResAt (Γ:Cx)(P:Program)(E:Env)(H:List HE)(x:ResultVar)(q:AV):Prop:=
 ∀R a W,RelS Γ R H W→RelA Γ.N R W E a→ ∃u,(j0s a.tmps x).run P W= .ok u W∧RelV R W q u
theorem ResAt.tmp {t:Nat}{q:AV}(h:a0j E t=some q):ResAt Γ P E H (.tmp t) q:=fun R a W hs ha=>⟨a.eval (.tmp t),rfl,ha.slots t q h⟩
theorem ResAt.cell {t T k b T' room:Nat}{xs ys:List AV}[hg:TyG P T true k](ht:a0j E t=some (.val (.pointer (some ⟨b,0,none⟩))))(hm:HE.blk b T' room xs∈H)(hv:xs.take k=ys)(hk:ys.length=k):ResAt Γ P E H (.cell t T) (.agg ys):=fun R a W hs ha=>by
 obtain⟨us,cs,hb,hsz,hts,hrl⟩:=hs.ok _ hm
 have hrl:=hrl.take k
 rw[hv]at hrl
 have hl:=b0e hg W b 0 (us.take k) (by rw[hrl.1,hk]) (fun i u hi=>by
  rw[cell_of_row W b (0+i) cs T' (0,0) hb]
  rw[List.getElem?_take]at hi
  split at hi
  ·rw[←hts,List.getElem?_take]at hi
   split at hi
   ·simpa using hi
   ·cases hi
  ·cases hi)
 have hv':=(ha.slots t _ ht).val_inv
 refine⟨.agg (us.take k).toArray,?_,hrl.toAgg⟩
 have:a.tmps.getD t undef= .pointer (some ⟨b,0,none⟩):=hv'
 simp[j0s,this,asAddr,hl]
theorem AQ.ret3G {fn:Func}{Post:AV→List HE→Prop}{x y z:ResultVar}{p q r:AV}{H':List HE}(hr:fn.results= #[x,y,z])(h1:ResAt Γ P E H x p)(h2:ResAt Γ P E H y q)(h3:ResAt Γ P E H z r)
  (hH: ∃H1,H1.Sublist H∧H'.Perm H1) (hp:Post (.tup [p,q,r]) H'):AQ Γ (FnQ Γ P fn Post) .ret E H:=fun R a W hs ha=>by
 obtain⟨H1,k1,k2⟩:=hH
 obtain⟨u1,e1,g1⟩:=h1 R a W hs ha
 obtain⟨u2,e2,g2⟩:=h2 R a W hs ha
 obtain⟨u3,e3,g3⟩:=h3 R a W hs ha
 refine⟨ha.defers,.tuple #[u1,u2,u3],?_,_,_,H',R,rfl,hp,?_,RelL.toTup (us:= [u1,u2,u3]) (RelL.cons g1 (RelL.cons g2 (RelL.cons g3 RelL.nil)))⟩
 ·rw[e0N,hr]
  simp[e1,e2,e3]
 ·have:=(hs.sub k1).perm k2
  exact⟨this.mods,this.rlt,this.rsub,this.rnew,this.ok,this.own,this.disj⟩
theorem yn {fn:Func}{Post:AV→List HE→Prop}{x y z:ResultVar}{p q r:AV}{H':List HE}(hr:fn.results= #[x,y,z]:=by exact rfl)(h1:ResAt Γ P E H x p:=by exact ResAt.cell rfl (by repeat(exact List.Mem.head _)) (by(dsimp only[List.set,cA,cN,List.take,List.drop];done)) (by rfl))(h2:ResAt Γ P E H y q:=by exact ResAt.cell rfl mM (by(dsimp only[List.set,cA,cN,List.take,List.drop];done)) (by rfl))(h3:ResAt Γ P E H z r:=by exact ResAt.tmp rfl)(hH: ∃H1,H1.Sublist H∧H'.Perm H1:=by exact nS)(hp:Post (.tup [p,q,r]) H':=by exact⟨rfl,rfl⟩):AQ Γ (FnQ Γ P fn Post) .ret E H:=AQ.ret3G hr h1 h2 h3 hH hp
theorem y1 {fn:Func}{Post:AV→List HE→Prop}{x y z:ResultVar}{p q r:AV}{H':List HE}(hr:fn.results= #[x,y,z]:=by exact rfl)(h1:ResAt Γ P E H x p:=by exact ResAt.cell rfl mM (by(dsimp only[List.set,cA,cN,List.take,List.drop];done)) (by rfl))(h2:ResAt Γ P E H y q:=by exact ResAt.cell rfl (by repeat(exact List.Mem.head _)) (by(dsimp only[List.set,cA,cN,List.take,List.drop];done)) (by rfl))(h3:ResAt Γ P E H z r:=by exact ResAt.tmp rfl)(hH: ∃H1,H1.Sublist H∧H'.Perm H1:=by exact nS)(hp:Post (.tup [p,q,r]) H':=by exact⟨rfl,rfl⟩):AQ Γ (FnQ Γ P fn Post) .ret E H:=AQ.ret3G hr h1 h2 h3 hH hp
theorem xI {fn:Func}{Post:AV→List HE→Prop}{x y z:ResultVar}{p q r:AV}{H':List HE}(hr:fn.results= #[x,y,z]:=by exact rfl)(h1:ResAt Γ P E H x p:=by exact ResAt.cell rfl mM (by(dsimp only[List.set,cA,cN,List.take,List.drop];done)) (by rfl))(h2:ResAt Γ P E H y q:=by exact ResAt.cell rfl mM (by(dsimp only[List.set,cA,cN,List.take,List.drop];done)) (by rfl))(h3:ResAt Γ P E H z r:=by exact ResAt.tmp rfl)(hH: ∃H1,H1.Sublist H∧H'.Perm H1:=by exact nS)(hp:Post (.tup [p,q,r]) H':=by exact⟨rfl,rfl⟩):AQ Γ (FnQ Γ P fn Post) .ret E H:=AQ.ret3G hr h1 h2 h3 hH hp
end
section
variable {P:Program}{ops:Array Oper}{N:Nat}
structure Al where
 (i d T room:Nat) (xs:List AV)
def Al.ok (P:Program)(N:Nat)(ops:Array Oper)(al:Al):Prop:=
 ∃o,ops[al.i]? =some o∧o.dst=some al.d∧al.d<N∧o.guard=none∧OpW P N o [] [] (a0S (fun b=> .val (.pointer (some ⟨b,0,none⟩))) al.T al.room al.xs)
def Al.he (al:Al)(b:Nat):HE:= .blk b al.T al.room al.xs
def Al.hs (al:Al):Option Nat→List HE
 |none=> []
 |some b=> [al.he b]
def AN (P:Program)(N:Nat)(ops:Array Oper)(al:Al)(Hs:List HE)(K:Env→List HE→Prop):List (Nat×Bool)→Env→List HE→Prop
 | [],E,H=>K E H
 |(i,true)::r,E,H=>if i=al.i then(∀b,AN P N ops al Hs K r ((al.d,.val (.pointer (some ⟨b,0,none⟩)))::E) (al.he b::H))else∃o,ops[i]? =some o∧ ∀w0 R0,AO ⟨w0,a0t H,R0,N⟩ P ops (QS ⟨w0,a0t H,R0,N⟩ o.dst (fun v H'=>AN P N ops al Hs K r (b0d o.dst v E) H')) [o] (rst E (o.looksAt ops)) H
 |(i,false)::r,E,H=> ∃o d v,ops[i]? =some o∧o.dst=some d∧d<N∧OpF P N ops o (rst E (o.looksAt ops)) Hs (Is v)∧AN P N ops al Hs K r ((d,v)::E) H
def c0g (ops:Array Oper)(ia:Nat)(an:List (List Nat))(i:Nat)(b:Bool)(j:Nat)(c:Bool):Bool:=
 match ops[i]?,ops[j]?with
 | some oi,some oj=>
  let waits:=oj.after.any fun e=>Region.binds .any e&&e.on==i
  let anc:=(an.getD j []).contains i
  (i !=j)&&(!b||anc||j==ia)&&
  (match oj.dst with
   |some d=>bif c&&j !=ia then(!((oi.looksAt ops).contains d||oi.dst==some d))||anc else !(oi.looksAt ops).contains d&&oi.dst !=some d
   |none=>c&&j !=ia)&&
  (match oi.dst with
   |some d=> !(oj.looksAt ops).contains d||waits
   |none=>true)
 |_,_=>false
def b0g (ops:Array Oper)(ia:Nat)(an:List (List Nat)):List (Nat×Bool)→Bool
 | []=>true
 |(i,b)::r=>(b||(match ops[i]?with|some o=>(match o.dst with|some d=> !(o.looksAt ops).contains d|none=>false)|none=>false))&&r.all (fun q=>c0g ops ia an i b q.1 q.2)&&b0g ops ia an r
theorem a0r {ia:Nat}{an:List (List Nat)}: ∀{pre r:List (Nat×Bool)},b0g ops ia an (pre++r)=true→b0g ops ia an r=true∧ ∀q∈pre,∀s∈r,c0g ops ia an q.1 q.2 s.1 s.2=true
 | [],r,h=>⟨h,fun q hq=>by cases hq⟩
 |(i,b)::pre,r,h=>by
  rw[cA,b0g]at h
  simp only[Bool.and_eq_true,List.all_eq_true]at h
  obtain⟨h1,h2⟩:=a0r h.2
  refine⟨h1,fun q hq s hs=> ?_⟩
  rcases List.mem_cons.1 hq with rfl|hq
  ·exact h.1.2 s (List.mem_append_right _ hs)
  ·exact h2 q hq s hs
structure PairOkA (ops:Array Oper) (ia:Nat) (an:List (List Nat)) (i:Nat) (b:Bool) (oi:Oper) (j:Nat) (c:Bool) (oj:Oper):Prop where
 ne:i≠j
 main:b=true→j≠ia→i∈an.getD j []
 flt:c=false∨j=ia→ ∃d,oj.dst=some d∧d∉oi.looksAt ops∧oi.dst≠some d
 mn:c=true→j≠ia→ ∀d,oj.dst=some d→(d∈oi.looksAt ops∨oi.dst=some d)→i∈an.getD j []
 reads: ∀d,oi.dst=some d→d∈oj.looksAt ops→ ∃e∈oj.after,Region.binds .any e=true∧e.on=i
theorem b0T {ia:Nat}{an:List (List Nat)}{i j:Nat}{b c:Bool}{oi oj:Oper}(h:c0g ops ia an i b j c=true)(hi:ops[i]? =some oi)(hj:ops[j]? =some oj):PairOkA ops ia an i b oi j c oj:=by
 unfold c0g at h
 rw[hi,hj]at h
 simp only[Bool.and_eq_true,bne_iff_ne,ne_eq]at h
 obtain⟨⟨⟨h1,h2⟩,h3⟩,h4⟩:=h
 refine⟨h1,fun hb hj=> ?_,fun hc=> ?_,fun hc hj d hd hm=> ?_,fun d hd hm=> ?_⟩
 ·subst hb;simpa[hj]using h2
 ·have hcj:(c&&j !=ia)=false:=by rcases hc with hc|hc<;>simp[hc]
  cases hd:oj.dst with
  |none=>rw[hd]at h3;simp only[hcj]at h3;cases h3
  |some d=>
   rw[hd]at h3
   simp only[hcj,cond_false]at h3
   simp at h3
   exact⟨d,rfl,h3.1,h3.2⟩
 ·subst hc
  have hcj:(true&&j !=ia)=true:=by simp[hj]
  rw[hd]at h3
  simp only[hcj,cond_true]at h3
  simp at h3
  rcases h3 with h3|h3
  ·rcases hm with hm|hm
   ·exact absurd hm h3.1
   ·exact absurd hm h3.2
  ·exact h3
 ·rw[hd]at h4
  simp only[Bool.or_eq_true,Bool.not_eq_true',List.contains_eq_mem,decide_eq_false_iff_not]at h4
  rcases h4 with h4|h4
  ·exact absurd hm h4
  ·obtain⟨x,hx,hx2⟩:=e0t h4
   simp only[Bool.and_eq_true,beq_iff_eq]at hx2
   exact⟨x,hx,hx2.1,hx2.2⟩
structure NI (P:Program) (Γ:Cx) (ops:Array Oper) (al:Al) (Hs:List HE) (K:Env→List HE→Prop) (ord:List (Nat×Bool)) (listed:Array Bool) (A:Act) (W:World) (pre ms:List (Nat×Bool)) (Pd:List Nat) (ea:Option Nat) (E:Env) (H:List HE) (R:Nat→Prop):Prop where
 size:listed.size=ops.size
 closed:b0C ops listed
 part: ∀i,i<ops.size→(listed.getD i false=false↔(i∈Pd∨i∈ms.map Prod.fst)∧(ea≠none→i≠al.i))
 ord:ord=pre++ms
 pdp: ∀i∈Pd,(i,false)∈pre
 am:AN P Γ.N ops al Hs K ms E H
 pend: ∀i∈Pd,∃o d v,ops[i]? =some o∧o.dst=some d∧d<Γ.N∧a0j E d=some v∧OpF P Γ.N ops o (rst E (o.looksAt ops)) Hs (Is v)
 rels:RelS Γ R (H++(al.hs ea++Hs)) W
 eal: ∀b,ea=some b→(al.i,true)∈ms∧A.eval (.tmp al.d)= .pointer (some ⟨b,0,none⟩)
 defers:A.defers= []
 tmps:A.tmps.size=Γ.N
 act: ∀t v,a0j E t=some v→(∀i∈Pd,∀o,ops[i]? =some o→o.dst≠some t)→(ea≠none→t≠al.d)→RelV R W v (A.eval (.tmp t))
variable {Γ:Cx}{al:Al}{Hs:List HE}{K:Env→List HE→Prop}{ord:List (Nat×Bool)}
theorem NI.absorb {listed:Array Bool}{A:Act}{W:World}{R:Nat→Prop}(hok:b0g ops al.i (c0k ops.toList []) ord=true)(hal:al.ok P Γ.N ops): ∀(ms pre:List (Nat×Bool)) (Pd:List Nat) (ea:Option Nat) (E:Env) (H:List HE),NI P Γ ops al Hs K ord listed A W pre ms Pd ea E H R→
  ∃pre' ms' Pd' ea' E' H',NI P Γ ops al Hs K ord listed A W pre' ms' Pd' ea' E' H' R∧(ms'= []∨ ∃m r,ms'=(m,true)::r∧(m=al.i→ea'=none))
 | [],pre,Pd,ea,E,H,h=>⟨pre,[],Pd,ea,E,H,h,.inl rfl⟩
 | (m,true)::r,pre,Pd,ea,E,H,h=>by
  by_cases hm:m=al.i
  ·subst hm
   cases hea:ea with
   |none=>subst hea;exact⟨pre,_,Pd,none,E,H,h,.inr ⟨_,r,rfl,fun _=>rfl⟩⟩
   | some b=>
    subst hea
    obtain⟨oa,ho,hd,hN,hg,hop⟩:=hal
    have ham:=h.am
    rw[AN,if_pos rfl]at ham
    have hord:=h.ord
    have hq:=a0r (pre:=pre) (r:=(al.i,true)::r) (by rw[←hord];exact hok)
    have hself: ∀i∈Pd,i≠al.i:=fun i hi e=>by
     have:=b0T (hq.2 _ (h.pdp i hi) (al.i,true) (List.mem_cons_self ..)) (by rw[e];exact ho) ho
     exact this.ne e
    have hp: ∀i∈Pd,∀oi,ops[i]? =some oi→al.d∉oi.looksAt ops∧oi.dst≠some al.d:=fun i hi oi hoi=>by
     have:=b0T (hq.2 _ (h.pdp i hi) (al.i,true) (List.mem_cons_self ..)) hoi ho
     obtain⟨d',h1,h2,h3⟩:=this.flt (.inr rfl)
     rw[hd]at h1
     cases h1
     exact⟨h2,h3⟩
    have hnr:al.i∉r.map Prod.fst:=fun hm=>by
     obtain⟨⟨j,c⟩,hq3,hji⟩:=List.mem_map.1 hm
     have h9:=(a0r (pre:=pre++[(al.i,true)]) (r:=r) (by rw[List.append_assoc,List.singleton_append,←hord];exact hok)).2 (al.i,true) (by simp) _ hq3
     simp only at hji
     subst hji
     exact(b0T h9 ho ho).ne rfl
    refine NI.absorb hok ⟨oa,ho,hd,hN,hg,hop⟩ r (pre++[(al.i,true)]) Pd none ((al.d,.val (.pointer (some ⟨b,0,none⟩)))::E) (al.he b::H) ⟨h.size,h.closed,fun i hi=> ?_,by rw[hord];simp,fun i hi=>List.mem_append_left _ (h.pdp i hi),ham b,fun i hi=> ?_,?_,fun _ h=>(by cases h),h.defers,h.tmps,fun t x ht hpd _=> ?_⟩
    ·rw[h.part i hi]
     simp only[List.map_cons,List.mem_cons,ne_eq,not_false_eq_true,forall_const,not_true_eq_false,false_implies,and_true,reduceCtorEq]
     constructor
     ·rintro⟨h1|h1|h1,h2⟩
      ·exact .inl h1
      ·exact absurd h1 h2
      ·exact .inr h1
     ·rintro(h1|h1)
      ·exact⟨.inl h1,hself i h1⟩
      ·exact⟨.inr (.inr h1),fun e=>hnr (e▸h1)⟩
    ·obtain⟨oi,di,vi,h1,h2,h3,h4,h5⟩:=h.pend i hi
     obtain⟨h6,h7⟩:=hp i hi oi h1
     refine⟨oi,di,vi,h1,h2,h3,?_,by rw[a0M h6];exact h5⟩
     rw[a0y (fun e=>h7 (by rw[h2,e]))];exact h4
    ·refine h.rels.perm ?_
     show(al.he b::(H++([]++Hs))).Perm (H++([al.he b]++Hs))
     exact(List.perm_middle (a:=al.he b) (l₁:=H) (l₂:=Hs)).symm
    ·by_cases hdt:al.d=t
     ·subst hdt
      rw[a0X]at ht
      cases ht
      rw[(h.eal b rfl).2];exact .val _
     ·rw[a0y hdt]at ht
      exact h.act t x ht hpd fun _ e=>hdt e.symm
  ·exact⟨pre,_,Pd,ea,E,H,h,.inr ⟨m,r,rfl,fun e=>absurd e hm⟩⟩
 | (j,false)::r,pre,Pd,ea,E,H,h=>by
  obtain⟨o,d,v,ho,hd,hN,hop,ham⟩:=h.am
  have hord:=h.ord
  have hq:=a0r (pre:=pre) (r:=(j,false)::r) (by rw[←hord];exact hok)
  have hself:d∉o.looksAt ops:=by
   have:=hq.1
   rw[b0g]at this
   simp only[Bool.and_eq_true,ho,hd,Bool.false_or]at this
   simpa using this.1.1
  have hp: ∀i∈Pd,∀oi,ops[i]? =some oi→d∉oi.looksAt ops∧oi.dst≠some d:=fun i hi oi hoi=>by
   have:=b0T (hq.2 _ (h.pdp i hi) (j,false) (List.mem_cons_self ..)) hoi ho
   obtain⟨d',h1,h2,h3⟩:=this.flt (.inl rfl)
   rw[hd]at h1
   cases h1
   exact⟨h2,h3⟩
  refine NI.absorb hok hal r (pre++[(j,false)]) (j::Pd) ea ((d,v)::E) H ⟨h.size,h.closed,fun i hi=> ?_,by rw[hord];simp,fun i hi=> ?_,ham,fun i hi=> ?_,h.rels,fun b hb=> ?_,h.defers,h.tmps,fun t x ht hpd hea=> ?_⟩
  ·rw[h.part i hi]
   simp only[List.map_cons,List.mem_cons]
   refine and_congr_left fun _=> ?_
   constructor
   ·rintro(h|h|h)
    ·exact .inl (.inr h)
    ·exact .inl (.inl h)
    ·exact .inr h
   ·rintro((h|h)|h)
    ·exact .inr (.inl h)
    ·exact .inl h
    ·exact .inr (.inr h)
  ·rcases List.mem_cons.1 hi with rfl|hi
   ·simp
   ·exact List.mem_append_left _ (h.pdp i hi)
  ·rcases List.mem_cons.1 hi with rfl|hi
   ·exact⟨o,d,v,ho,hd,hN,a0X,by rw[a0M hself];exact hop⟩
   ·obtain⟨oi,di,vi,h1,h2,h3,h4,h5⟩:=h.pend i hi
    obtain⟨h6,h7⟩:=hp i hi oi h1
    refine⟨oi,di,vi,h1,h2,h3,?_,by rw[a0M h6];exact h5⟩
    rw[a0y (fun e=>h7 (by rw[h2,e]))];exact h4
  ·obtain⟨h1,h2⟩:=h.eal b hb
   rcases List.mem_cons.1 h1 with h1|h1
   ·cases h1
   ·exact⟨h1,h2⟩
  ·have hne:d≠t:=fun e=>hpd j (List.mem_cons_self ..) o ho (by rw[hd,e])
   rw[a0y hne]at ht
   exact h.act t x ht (fun i hi=>hpd i (List.mem_cons_of_mem _ hi)) hea
theorem NI.reads {listed:Array Bool}{A:Act}{W:World}{R:Nat→Prop}{pre ms:List (Nat×Bool)}{Pd:List Nat}{ea:Option Nat}{E:Env}{H:List HE}(hok:b0g ops al.i (c0k ops.toList []) ord=true)(hal:al.ok P Γ.N ops)(h:NI P Γ ops al Hs K ord listed A W pre ms Pd ea E H R)
  {i:Nat} {b:Bool} {o:Oper} (ho:ops[i]? =some o) (hdeps: ∀e∈o.after,Region.binds .any e=true→listed.getD e.on false=true) (hi:(i,b)∈pre∧i∈Pd∧b=false∨ ∃r,ms=(i,b)::r∧i≠al.i):RelA Γ.N R W (rst E (o.looksAt ops)) A:=by
 refine⟨h.defers,h.tmps,fun t v ht=> ?_⟩
 obtain⟨htl,ht⟩:=b0I ht
 obtain⟨oa,hoa,hda, -⟩:=hal
 have hnal:ea≠none→t≠al.d:=fun hea e=>by
  obtain⟨b',hb'⟩:=Option.ne_none_iff_exists'.1 hea
  have hmem:=(h.eal b' hb').1
  have key:c0g ops al.i (c0k ops.toList []) i b al.i true=true→False:=fun hp=>by
   obtain⟨d',h1,h2, -⟩:=(b0T hp ho hoa).flt (.inr rfl)
   rw[hda]at h1;cases h1
   exact h2 (e▸htl)
  rcases hi with⟨hip, -, -⟩|⟨r,hms,hne⟩
  ·exact key ((a0r (pre:=pre) (r:=ms) (by rw[←h.ord];exact hok)).2 _ hip _ hmem)
  ·rw[hms]at hmem
   rcases List.mem_cons.1 hmem with h9|h9
   ·cases h9;exact hne rfl
   ·exact key ((a0r (pre:=pre++[(i,b)]) (r:=r) (by have:=h.ord;rw[List.append_assoc,List.singleton_append,←hms,←this];exact hok)).2 (i,b) (by simp) _ h9)
 refine h.act t v ht (fun k hk ok hok' hdk=> ?_) hnal
 have hkp:=h.pdp k hk
 have hkn:ea≠none→k≠al.i:=fun hea e=>by
  obtain⟨b',hb'⟩:=Option.ne_none_iff_exists'.1 hea
  have hmem:=(h.eal b' hb').1
  exact(b0T ((a0r (pre:=pre) (r:=ms) (by rw[←h.ord];exact hok)).2 _ hkp _ hmem) hok' hoa).ne e
 have hkf:listed.getD k false=false:=(h.part k (Array.getElem?_eq_some_iff.1 hok').1).2 ⟨.inl hk,hkn⟩
 have direct:c0g ops al.i (c0k ops.toList []) k false i b=true→False:=fun hp=>by
  obtain⟨e,he,hb,hon⟩:=(b0T hp hok' ho).reads t hdk htl
  have:=hdeps e he hb
  rw[hon,hkf]at this;cases this
 rcases hi with⟨hip,hiP,rfl⟩|⟨r,hms, -⟩
 ·
  obtain⟨p1,p2,hp12⟩:=List.append_of_mem hkp
  have hord:=h.ord
  rw[hp12,List.append_assoc]at hord
  rw[hp12]at hip
  rcases List.mem_append.1 hip with hip|hip
  ·
   have hq:=a0r (pre:=p1) (by rw[←hord];exact hok)
   have:=b0T (hq.2 _ hip (k,false) (List.mem_cons_self ..)) ho hok'
   obtain⟨d',h1,h2, -⟩:=this.flt (.inl rfl)
   rw[hdk]at h1;cases h1
   exact h2 htl
  ·rcases List.mem_cons.1 hip with he|hip
   ·cases he
    have hq:=(a0r (pre:=p1) (by rw[←hord];exact hok)).1
    rw[cA,b0g]at hq
    simp only[Bool.and_eq_true]at hq
    obtain rfl:o=ok:=by rw[ho]at hok';exact Option.some.inj hok'
    have:=hq.1.1
    rw[ho]at this
    simp only[hdk,Bool.false_or]at this
    simp at this
    exact this htl
   ·rw[show p1++((k,false)::p2++ms)=(p1++[(k,false)])++(p2++ms) by simp]at hord
    have hq:=a0r (pre:=p1++[(k,false)]) (by rw[←hord];exact hok)
    exact direct (hq.2 (k,false) (by simp) (i,false) (List.mem_append_left _ hip))
 ·have hq:=a0r (pre:=pre) (r:=ms) (by rw[←h.ord];exact hok)
  exact direct (hq.2 _ hkp (i,b) (by rw[hms];exact List.mem_cons_self ..))
theorem AN.op {i d:Nat}{r:List (Nat×Bool)}{E:Env}{H:List HE}{o:Oper}{v:AV}(ho:ops[i]? =some o)(h:OpW P N o (rst E (o.looksAt ops)) Hs (Is v))(hw:a0d ops (rst E (o.looksAt ops)) o=some true)(hd:o.dst=some d)(hN:Nat.ble (d+1) N=true)(k:AN P N ops al Hs K r ((d,v)::E) H):
  AN P N ops al Hs K ((i,false)::r) E H:=⟨o,d,v,ho,hd,lB hN,.run hw h,k⟩
theorem AN.opG {i d:Nat}{r:List (Nat×Bool)}{E:Env}{H:List HE}{o:Oper}{c:Bool}{v:AV}(ho:ops[i]? =some o)(hw:a0B ops (rst E (o.looksAt ops)) o=some c)(hd:o.dst=some d)(hN:Nat.ble (d+1) N=true)(h:c=true→OpW P N o (rst E (o.looksAt ops)) Hs (Is v))(k:AN P N ops al Hs K r ((d,.opt c v)::E) H):
  AN P N ops al Hs K ((i,false)::r) E H:=⟨o,d,_,ho,hd,lB hN,.opt hw h,k⟩
theorem AN.no {i d:Nat}{r:List (Nat×Bool)}{E:Env}{H:List HE}{o:Oper}(ho:ops[i]? =some o)(hw:a0d ops (rst E (o.looksAt ops)) o=some false)(hd:o.dst=some d)(hN:Nat.ble (d+1) N=true)(k:AN P N ops al Hs K r ((d,.val undef)::E) H):
  AN P N ops al Hs K ((i,false)::r) E H:=⟨o,d,_,ho,hd,lB hN,.no hw,k⟩
theorem AN.main {i:Nat}{r:List (Nat×Bool)}{E:Env}{H:List HE}(o:Oper)(ho:ops[i]? =some o)(hne:Nat.beq i al.i=false)(h: ∀w0 R0,AO ⟨w0,a0t H,R0,N⟩ P ops (QS ⟨w0,a0t H,R0,N⟩ o.dst (fun v H'=>AN P N ops al Hs K r (b0d o.dst v E) H')) [o] (rst E (o.looksAt ops)) H):
  AN P N ops al Hs K ((i,true)::r) E H:=by rw[AN,if_neg (Nat.ne_of_beq_eq_false hne)];exact⟨o,ho,h⟩
theorem AN.box {i:Nat}{r:List (Nat×Bool)}{E:Env}{H:List HE}(he:i=al.i)(k: ∀b,AN P N ops al Hs K r ((al.d,.val (.pointer (some ⟨b,0,none⟩)))::E) (al.he b::H)):AN P N ops al Hs K ((i,true)::r) E H:=by rw[AN,if_pos he];exact k
theorem AN.nil {E:Env}{H:List HE}(h:K E H):AN P N ops al Hs K [] E H:=h
end
section
variable {P:Program}{ops:Array Oper}{N:Nat}
def n0O (als:List Al)(i:Nat):Option Al:=als.find? fun al=>Nat.beq al.i i
def j0U (als:List Al)(i:Nat):Bool:=(n0O als i).isSome
theorem f0P {als:List Al}(hn:(als.map Al.i).Nodup){al:Al}(h:al∈als):n0O als al.i=some al:=by
 induction als with
 |nil=>cases h
 | cons a r ih=>
  rw[List.map_cons,List.nodup_cons]at hn
  unfold n0O
  rw[List.find?_cons]
  rcases List.mem_cons.1 h with rfl|h
  ·simp
  ·have hne:Nat.beq a.i al.i=false:=by
    cases hb:Nat.beq a.i al.i with
    |false=>rfl
    |true=>exact absurd (List.mem_map.2 ⟨al,h,(Nat.eq_of_beq_eq_true hb).symm⟩) hn.1
   rw[hne];exact ih hn.2 h
def upd (ea:Nat→Option Nat)(i:Nat)(v:Option Nat):Nat→Option Nat:=fun k=>if k=i then v else ea k
theorem c0y (ea:Nat→Option Nat)(i:Nat)(v:Option Nat):upd ea i v i=v:=if_pos rfl
theorem b0o (ea:Nat→Option Nat){i k:Nat}(v:Option Nat)(h:k≠i):upd ea i v k=ea k:=if_neg h
def c0o (als:List Al)(ea:Nat→Option Nat):List HE:=als.flatMap fun al=>al.hs (ea al.i)
theorem h0e {als:List Al}{ea ea':Nat→Option Nat}(h: ∀al∈als,ea al.i=ea' al.i):c0o als ea=c0o als ea':=by
 induction als with
 |nil=>rfl
 |cons a r ih=>
  unfold c0o at ih⊢
  rw[List.flatMap_cons,List.flatMap_cons,h a (List.mem_cons_self ..),ih fun al hal=>h al (List.mem_cons_of_mem _ hal)]
theorem k0g {als:List Al}(hn:(als.map Al.i).Nodup){al:Al}(hm:al∈als){ea:Nat→Option Nat}(b:Nat)(h:ea al.i=none):(c0o als (upd ea al.i (some b))).Perm (al.he b::c0o als ea):=by
 induction als with
 |nil=>cases hm
 | cons a r ih=>
  rw[List.map_cons,List.nodup_cons]at hn
  rcases List.mem_cons.1 hm with rfl|hm
  ·have e:c0o r (upd ea al.i (some b))=c0o r ea:=h0e fun x hx=>b0o _ _ fun e=>hn.1 (List.mem_map.2 ⟨x,hx,e⟩)
   show(al.hs (upd ea al.i (some b) al.i)++c0o r (upd ea al.i (some b))).Perm (al.he b::(al.hs (ea al.i)++c0o r ea))
   rw[c0y,h,e];exact .refl _
  ·have hne:a.i≠al.i:=fun e=>hn.1 (List.mem_map.2 ⟨al,hm,e.symm⟩)
   show(a.hs (upd ea al.i (some b) a.i)++c0o r (upd ea al.i (some b))).Perm (al.he b::(a.hs (ea a.i)++c0o r ea))
   rw[b0o _ _ hne]
   exact((ih hn.2 hm).append_left _).trans List.perm_middle
theorem h0f {als:List Al}(hn:(als.map Al.i).Nodup){al:Al}(hm:al∈als){ea:Nat→Option Nat}{b:Nat}(h:ea al.i=some b):(c0o als ea).Perm (al.he b::c0o als (upd ea al.i none)):=by
 have e:ea=upd (upd ea al.i none) al.i (some b):=by
  funext k
  by_cases hk:k=al.i
  ·subst hk;rw[c0y];exact h
  ·rw[b0o _ _ hk,b0o _ _ hk]
 have:=k0g hn hm (ea:=upd ea al.i none) b (c0y _ _ _)
 rwa [←e]at this
def AB (P:Program)(N:Nat)(ops:Array Oper)(als:List Al)(Hs:List HE)(K:Env→List HE→Prop):List (Nat×Bool)→Env→List HE→Prop
 | [],E,H=>K E H
 |(i,true)::r,E,H=>match n0O als i with
  |some al=> ∀b,AB P N ops als Hs K r ((al.d,.val (.pointer (some ⟨b,0,none⟩)))::E) (al.he b::H)
  |none=> ∃o,ops[i]? =some o∧ ∀w0 R0,AO ⟨w0,a0t H,R0,N⟩ P ops (QS ⟨w0,a0t H,R0,N⟩ o.dst (fun v H'=>AB P N ops als Hs K r (b0d o.dst v E) H')) [o] (rst E (o.looksAt ops)) H
 |(i,false)::r,E,H=> ∃o d v,ops[i]? =some o∧o.dst=some d∧d<N∧OpF P N ops o (rst E (o.looksAt ops)) Hs (Is v)∧AB P N ops als Hs K r ((d,v)::E) H
def c0f (ops:Array Oper)(ia:Nat→Bool)(an:List (List Nat))(i:Nat)(b:Bool)(j:Nat)(c:Bool):Bool:=
 match ops[i]?,ops[j]?with
 | some oi,some oj=>
  let waits:=oj.after.any fun e=>Region.binds .any e&&e.on==i
  let anc:=(an.getD j []).contains i
  (i !=j)&&(!b||anc||ia j)&&
  (match oj.dst with
   |some d=>bif c&& !ia j then(!((oi.looksAt ops).contains d||oi.dst==some d))||anc else !(oi.looksAt ops).contains d&&oi.dst !=some d
   |none=>c&& !ia j)&&
  (match oi.dst with
   |some d=> !(oj.looksAt ops).contains d||waits
   |none=>true)
 |_,_=>false
def b0f (ops:Array Oper)(ia:Nat→Bool)(an:List (List Nat)):List (Nat×Bool)→Bool
 | []=>true
 |(i,b)::r=>(b||(match ops[i]?with|some o=>(match o.dst with|some d=> !(o.looksAt ops).contains d|none=>false)|none=>false))&&r.all (fun q=>c0f ops ia an i b q.1 q.2)&&b0f ops ia an r
theorem a0q {ia:Nat→Bool}{an:List (List Nat)}: ∀{pre r:List (Nat×Bool)},b0f ops ia an (pre++r)=true→b0f ops ia an r=true∧ ∀q∈pre,∀s∈r,c0f ops ia an q.1 q.2 s.1 s.2=true
 | [],r,h=>⟨h,fun q hq=>by cases hq⟩
 |(i,b)::pre,r,h=>by
  rw[cA,b0f]at h
  simp only[Bool.and_eq_true,List.all_eq_true]at h
  obtain⟨h1,h2⟩:=a0q h.2
  refine⟨h1,fun q hq s hs=> ?_⟩
  rcases List.mem_cons.1 hq with rfl|hq
  ·exact h.1.2 s (List.mem_append_right _ hs)
  ·exact h2 q hq s hs
structure PairOkB (ops:Array Oper) (ia:Nat→Bool) (an:List (List Nat)) (i:Nat) (b:Bool) (oi:Oper) (j:Nat) (c:Bool) (oj:Oper):Prop where
 ne:i≠j
 main:b=true→ia j=false→i∈an.getD j []
 flt:c=false∨ia j=true→ ∃d,oj.dst=some d∧d∉oi.looksAt ops∧oi.dst≠some d
 mn:c=true→ia j=false→ ∀d,oj.dst=some d→(d∈oi.looksAt ops∨oi.dst=some d)→i∈an.getD j []
 reads: ∀d,oi.dst=some d→d∈oj.looksAt ops→ ∃e∈oj.after,Region.binds .any e=true∧e.on=i
theorem b0S {ia:Nat→Bool}{an:List (List Nat)}{i j:Nat}{b c:Bool}{oi oj:Oper}(h:c0f ops ia an i b j c=true)(hi:ops[i]? =some oi)(hj:ops[j]? =some oj):PairOkB ops ia an i b oi j c oj:=by
 unfold c0f at h
 rw[hi,hj]at h
 simp only[Bool.and_eq_true,bne_iff_ne,ne_eq]at h
 obtain⟨⟨⟨h1,h2⟩,h3⟩,h4⟩:=h
 refine⟨h1,fun hb hj=> ?_,fun hc=> ?_,fun hc hj d hd hm=> ?_,fun d hd hm=> ?_⟩
 ·subst hb;simpa[hj]using h2
 ·have hcj:(c&& !ia j)=false:=by rcases hc with hc|hc<;>simp[hc]
  cases hd:oj.dst with
  |none=>rw[hd]at h3;simp only[hcj]at h3;cases h3
  |some d=>
   rw[hd]at h3
   simp only[hcj,cond_false]at h3
   simp at h3
   exact⟨d,rfl,h3.1,h3.2⟩
 ·subst hc
  have hcj:(true&& !ia j)=true:=by simp[hj]
  rw[hd]at h3
  simp only[hcj,cond_true]at h3
  simp at h3
  rcases h3 with h3|h3
  ·rcases hm with hm|hm
   ·exact absurd hm h3.1
   ·exact absurd hm h3.2
  ·exact h3
 ·rw[hd]at h4
  simp only[Bool.or_eq_true,Bool.not_eq_true',List.contains_eq_mem,decide_eq_false_iff_not]at h4
  rcases h4 with h4|h4
  ·exact absurd hm h4
  ·obtain⟨x,hx,hx2⟩:=e0t h4
   simp only[Bool.and_eq_true,beq_iff_eq]at hx2
   exact⟨x,hx,hx2.1,hx2.2⟩
structure NB (P:Program) (Γ:Cx) (ops:Array Oper) (als:List Al) (Hs:List HE) (K:Env→List HE→Prop) (ord:List (Nat×Bool)) (listed:Array Bool) (A:Act) (W:World) (pre ms:List (Nat×Bool)) (Pd:List Nat) (ea:Nat→Option Nat) (E:Env) (H:List HE) (R:Nat→Prop):Prop where
 size:listed.size=ops.size
 closed:b0C ops listed
 part: ∀i,i<ops.size→(listed.getD i false=false↔(i∈Pd∨i∈ms.map Prod.fst)∧ea i=none)
 ord:ord=pre++ms
 pdp: ∀i∈Pd,(i,false)∈pre
 am:AB P Γ.N ops als Hs K ms E H
 pend: ∀i∈Pd,∃o d v,ops[i]? =some o∧o.dst=some d∧d<Γ.N∧a0j E d=some v∧OpF P Γ.N ops o (rst E (o.looksAt ops)) Hs (Is v)
 rels:RelS Γ R (H++(c0o als ea++Hs)) W
 eal: ∀i b,ea i=some b→ ∃al∈als,al.i=i∧(i,true)∈ms∧A.eval (.tmp al.d)= .pointer (some ⟨b,0,none⟩)
 defers:A.defers= []
 tmps:A.tmps.size=Γ.N
 act: ∀t v,a0j E t=some v→(∀i∈Pd,∀o,ops[i]? =some o→o.dst≠some t)→(∀al∈als,ea al.i≠none→t≠al.d)→RelV R W v (A.eval (.tmp t))
variable {Γ:Cx}{als:List Al}{Hs:List HE}{K:Env→List HE→Prop}{ord:List (Nat×Bool)}
def alsOk (P:Program)(N:Nat)(ops:Array Oper)(als:List Al):Prop:=(als.map Al.i).Nodup∧ ∀al∈als,al.ok P N ops
theorem NB.absorb {listed:Array Bool}{A:Act}{W:World}{R:Nat→Prop}(hok:b0f ops (j0U als) (c0k ops.toList []) ord=true)(hals:alsOk P Γ.N ops als): ∀(ms pre:List (Nat×Bool)) (Pd:List Nat) (ea:Nat→Option Nat) (E:Env) (H:List HE),NB P Γ ops als Hs K ord listed A W pre ms Pd ea E H R→
  ∃pre' ms' Pd' ea' E' H',NB P Γ ops als Hs K ord listed A W pre' ms' Pd' ea' E' H' R∧(ms'= []∨ ∃m r,ms'=(m,true)::r∧ea' m=none)
 | [],pre,Pd,ea,E,H,h=>⟨pre,[],Pd,ea,E,H,h,.inl rfl⟩
 | (m,true)::r,pre,Pd,ea,E,H,h=>by
  cases hea:ea m with
  |none=>exact⟨pre,_,Pd,ea,E,H,h,.inr ⟨m,r,rfl,hea⟩⟩
  | some b=>
   obtain⟨al,halm,rfl, -,hpt⟩:=h.eal m b hea
   have hfa:n0O als al.i=some al:=f0P hals.1 halm
   have hisal:j0U als al.i=true:=by unfold j0U;rw[hfa];rfl
   obtain⟨oa,ho,hd,hN,hg,hop⟩:=hals.2 al halm
   have ham:=h.am
   rw[AB,hfa]at ham
   have hord:=h.ord
   have hq:=a0q (pre:=pre) (r:=(al.i,true)::r) (by rw[←hord];exact hok)
   have hself: ∀i∈Pd,i≠al.i:=fun i hi e=>by
    have:=b0S (hq.2 _ (h.pdp i hi) (al.i,true) (List.mem_cons_self ..)) (by rw[e];exact ho) ho
    exact this.ne e
   have hp: ∀i∈Pd,∀oi,ops[i]? =some oi→al.d∉oi.looksAt ops∧oi.dst≠some al.d:=fun i hi oi hoi=>by
    have:=b0S (hq.2 _ (h.pdp i hi) (al.i,true) (List.mem_cons_self ..)) hoi ho
    obtain⟨d',h1,h2,h3⟩:=this.flt (.inr hisal)
    rw[hd]at h1
    cases h1
    exact⟨h2,h3⟩
   have hnr:al.i∉r.map Prod.fst:=fun hm=>by
    obtain⟨⟨j,c⟩,hq3,hji⟩:=List.mem_map.1 hm
    have h9:=(a0q (pre:=pre++[(al.i,true)]) (r:=r) (by rw[List.append_assoc,List.singleton_append,←hord];exact hok)).2 (al.i,true) (by simp) _ hq3
    simp only at hji
    subst hji
    exact(b0S h9 ho ho).ne rfl
   refine NB.absorb hok hals r (pre++[(al.i,true)]) Pd (upd ea al.i none) ((al.d,.val (.pointer (some ⟨b,0,none⟩)))::E) (al.he b::H) ⟨h.size,h.closed,fun i hi=> ?_,by rw[hord];simp,fun i hi=>List.mem_append_left _ (h.pdp i hi),ham b,fun i hi=> ?_,?_,fun i b' hb'=> ?_,h.defers,h.tmps,fun t x ht hpd hne=> ?_⟩
   ·rw[h.part i hi]
    simp only[List.map_cons,List.mem_cons]
    by_cases hia:i=al.i
    ·subst hia
     rw[c0y,hea]
     constructor
     ·rintro⟨_,h2⟩;cases h2
     ·rintro⟨h1|h1,_⟩
      ·exact absurd rfl (hself _ h1)
      ·exact absurd h1 hnr
    ·rw[b0o _ _ hia]
     refine and_congr_left fun _=> ?_
     constructor
     ·rintro(h1|h1|h1)
      ·exact .inl h1
      ·exact absurd h1 hia
      ·exact .inr h1
     ·rintro(h1|h1)
      ·exact .inl h1
      ·exact .inr (.inr h1)
   ·obtain⟨oi,di,vi,h1,h2,h3,h4,h5⟩:=h.pend i hi
    obtain⟨h6,h7⟩:=hp i hi oi h1
    refine⟨oi,di,vi,h1,h2,h3,?_,by rw[a0M h6];exact h5⟩
    rw[a0y (fun e=>h7 (by rw[h2,e]))];exact h4
   ·refine h.rels.perm ?_
    have h1:=h0f hals.1 halm hea
    show(al.he b::(H++(c0o als (upd ea al.i none)++Hs))).Perm (H++(c0o als ea++Hs))
    refine(List.perm_middle (a:=al.he b) (l₁:=H)).symm.trans ?_
    exact((h1.symm.append_right Hs).append_left H)
   ·by_cases hia:i=al.i
    ·subst hia;rw[c0y]at hb';cases hb'
    ·rw[b0o _ _ hia]at hb'
     obtain⟨al',h1,h2,h3,h4⟩:=h.eal i b' hb'
     refine⟨al',h1,h2,?_,h4⟩
     rcases List.mem_cons.1 h3 with h3|h3
     ·cases h3;exact absurd rfl hia
     ·exact h3
   ·by_cases hdt:al.d=t
    ·subst hdt
     rw[a0X]at ht
     cases ht
     rw[hpt];exact .val _
    ·rw[a0y hdt]at ht
     refine h.act t x ht hpd fun al' hal' hne' e=> ?_
     by_cases hia:al'.i=al.i
     ·have h1:=f0P hals.1 hal'
      rw[hia,hfa]at h1
      cases h1
      exact hdt e.symm
     ·exact hne al' hal' (by rw[b0o _ _ hia];exact hne') e
 | (j,false)::r,pre,Pd,ea,E,H,h=>by
  obtain⟨o,d,v,ho,hd,hN,hop,ham⟩:=h.am
  have hord:=h.ord
  have hq:=a0q (pre:=pre) (r:=(j,false)::r) (by rw[←hord];exact hok)
  have hself:d∉o.looksAt ops:=by
   have:=hq.1
   rw[b0f]at this
   simp only[Bool.and_eq_true,ho,hd,Bool.false_or]at this
   simpa using this.1.1
  have hp: ∀i∈Pd,∀oi,ops[i]? =some oi→d∉oi.looksAt ops∧oi.dst≠some d:=fun i hi oi hoi=>by
   have:=b0S (hq.2 _ (h.pdp i hi) (j,false) (List.mem_cons_self ..)) hoi ho
   obtain⟨d',h1,h2,h3⟩:=this.flt (.inl rfl)
   rw[hd]at h1
   cases h1
   exact⟨h2,h3⟩
  refine NB.absorb hok hals r (pre++[(j,false)]) (j::Pd) ea ((d,v)::E) H ⟨h.size,h.closed,fun i hi=> ?_,by rw[hord];simp,fun i hi=> ?_,ham,fun i hi=> ?_,h.rels,fun i b hb=> ?_,h.defers,h.tmps,fun t x ht hpd hea=> ?_⟩
  ·rw[h.part i hi]
   simp only[List.map_cons,List.mem_cons]
   refine and_congr_left fun _=> ?_
   constructor
   ·rintro(h|h|h)
    ·exact .inl (.inr h)
    ·exact .inl (.inl h)
    ·exact .inr h
   ·rintro((h|h)|h)
    ·exact .inr (.inl h)
    ·exact .inl h
    ·exact .inr (.inr h)
  ·rcases List.mem_cons.1 hi with rfl|hi
   ·simp
   ·exact List.mem_append_left _ (h.pdp i hi)
  ·rcases List.mem_cons.1 hi with rfl|hi
   ·exact⟨o,d,v,ho,hd,hN,a0X,by rw[a0M hself];exact hop⟩
   ·obtain⟨oi,di,vi,h1,h2,h3,h4,h5⟩:=h.pend i hi
    obtain⟨h6,h7⟩:=hp i hi oi h1
    refine⟨oi,di,vi,h1,h2,h3,?_,by rw[a0M h6];exact h5⟩
    rw[a0y (fun e=>h7 (by rw[h2,e]))];exact h4
  ·obtain⟨al,h0,h9,h1,h2⟩:=h.eal i b hb
   refine⟨al,h0,h9,?_,h2⟩
   rcases List.mem_cons.1 h1 with h1|h1
   ·cases h1
   ·exact h1
  ·have hne:d≠t:=fun e=>hpd j (List.mem_cons_self ..) o ho (by rw[hd,e])
   rw[a0y hne]at ht
   exact h.act t x ht (fun i hi=>hpd i (List.mem_cons_of_mem _ hi)) hea
theorem NB.reads {listed:Array Bool}{A:Act}{W:World}{R:Nat→Prop}{pre ms:List (Nat×Bool)}{Pd:List Nat}{ea:Nat→Option Nat}{E:Env}{H:List HE}(hok:b0f ops (j0U als) (c0k ops.toList []) ord=true)(hals:alsOk P Γ.N ops als)(h:NB P Γ ops als Hs K ord listed A W pre ms Pd ea E H R)
  {i:Nat} {b:Bool} {o:Oper} (ho:ops[i]? =some o) (hdeps: ∀e∈o.after,Region.binds .any e=true→listed.getD e.on false=true) (hi:(i,b)∈pre∧i∈Pd∧b=false∨ ∃r,ms=(i,b)::r∧j0U als i=false):RelA Γ.N R W (rst E (o.looksAt ops)) A:=by
 refine⟨h.defers,h.tmps,fun t v ht=> ?_⟩
 obtain⟨htl,ht⟩:=b0I ht
 have hnal: ∀al∈als,ea al.i≠none→t≠al.d:=fun al halm hea e=>by
  obtain⟨oa,hoa,hda, -⟩:=hals.2 al halm
  have hisal:j0U als al.i=true:=by unfold j0U;rw[f0P hals.1 halm];rfl
  obtain⟨b',hb'⟩:=Option.ne_none_iff_exists'.1 hea
  obtain⟨_, -, -,hmem, -⟩:=h.eal _ b' hb'
  have key:c0f ops (j0U als) (c0k ops.toList []) i b al.i true=true→False:=fun hp=>by
   obtain⟨d',h1,h2, -⟩:=(b0S hp ho hoa).flt (.inr hisal)
   rw[hda]at h1;cases h1
   exact h2 (e▸htl)
  rcases hi with⟨hip, -, -⟩|⟨r,hms,hne⟩
  ·exact key ((a0q (pre:=pre) (r:=ms) (by rw[←h.ord];exact hok)).2 _ hip _ hmem)
  ·rw[hms]at hmem
   rcases List.mem_cons.1 hmem with h9|h9
   ·cases h9;rw[hisal]at hne;cases hne
   ·exact key ((a0q (pre:=pre++[(i,b)]) (r:=r) (by have:=h.ord;rw[List.append_assoc,List.singleton_append,←hms,←this];exact hok)).2 (i,b) (by simp) _ h9)
 refine h.act t v ht (fun k hk ok hok' hdk=> ?_) hnal
 have hkp:=h.pdp k hk
 have hkn:ea k=none:=Classical.byContradiction fun hne=>by
  obtain⟨b',hb'⟩:=Option.ne_none_iff_exists'.1 hne
  obtain⟨al,halm,rfl,hmem, -⟩:=h.eal _ b' hb'
  obtain⟨oa,hoa,hda, -⟩:=hals.2 al halm
  exact(b0S ((a0q (pre:=pre) (r:=ms) (by rw[←h.ord];exact hok)).2 _ hkp _ hmem) hok' hoa).ne rfl
 have hkf:listed.getD k false=false:=(h.part k (Array.getElem?_eq_some_iff.1 hok').1).2 ⟨.inl hk,hkn⟩
 have direct:c0f ops (j0U als) (c0k ops.toList []) k false i b=true→False:=fun hp=>by
  obtain⟨e,he,hb,hon⟩:=(b0S hp hok' ho).reads t hdk htl
  have:=hdeps e he hb
  rw[hon,hkf]at this;cases this
 rcases hi with⟨hip,hiP,rfl⟩|⟨r,hms, -⟩
 ·
  obtain⟨p1,p2,hp12⟩:=List.append_of_mem hkp
  have hord:=h.ord
  rw[hp12,List.append_assoc]at hord
  rw[hp12]at hip
  rcases List.mem_append.1 hip with hip|hip
  ·
   have hq:=a0q (pre:=p1) (by rw[←hord];exact hok)
   have:=b0S (hq.2 _ hip (k,false) (List.mem_cons_self ..)) ho hok'
   obtain⟨d',h1,h2, -⟩:=this.flt (.inl rfl)
   rw[hdk]at h1;cases h1
   exact h2 htl
  ·rcases List.mem_cons.1 hip with he|hip
   ·cases he
    have hq:=(a0q (pre:=p1) (by rw[←hord];exact hok)).1
    rw[cA,b0f]at hq
    simp only[Bool.and_eq_true]at hq
    obtain rfl:o=ok:=by rw[ho]at hok';exact Option.some.inj hok'
    have:=hq.1.1
    rw[ho]at this
    simp only[hdk,Bool.false_or]at this
    simp at this
    exact this htl
   ·rw[show p1++((k,false)::p2++ms)=(p1++[(k,false)])++(p2++ms) by simp]at hord
    have hq:=a0q (pre:=p1++[(k,false)]) (by rw[←hord];exact hok)
    exact direct (hq.2 (k,false) (by simp) (i,false) (List.mem_append_left _ hip))
 ·have hq:=a0q (pre:=pre) (r:=ms) (by rw[←h.ord];exact hok)
  exact direct (hq.2 _ hkp (i,b) (by rw[hms];exact List.mem_cons_self ..))
theorem AB.op {i d:Nat}{r:List (Nat×Bool)}{E:Env}{H:List HE}{o:Oper}{v:AV}(ho:ops[i]? =some o)(h:OpW P N o (rst E (o.looksAt ops)) Hs (Is v))(hw:a0d ops (rst E (o.looksAt ops)) o=some true)(hd:o.dst=some d)(hN:Nat.ble (d+1) N=true)(k:AB P N ops als Hs K r ((d,v)::E) H):
  AB P N ops als Hs K ((i,false)::r) E H:=⟨o,d,v,ho,hd,lB hN,.run hw h,k⟩
theorem AB.opG {i d:Nat}{r:List (Nat×Bool)}{E:Env}{H:List HE}{o:Oper}{c:Bool}{v:AV}(ho:ops[i]? =some o)(hw:a0B ops (rst E (o.looksAt ops)) o=some c)(hd:o.dst=some d)(hN:Nat.ble (d+1) N=true)(h:c=true→OpW P N o (rst E (o.looksAt ops)) Hs (Is v))(k:AB P N ops als Hs K r ((d,.opt c v)::E) H):
  AB P N ops als Hs K ((i,false)::r) E H:=⟨o,d,_,ho,hd,lB hN,.opt hw h,k⟩
theorem AB.no {i d:Nat}{r:List (Nat×Bool)}{E:Env}{H:List HE}{o:Oper}(ho:ops[i]? =some o)(hw:a0d ops (rst E (o.looksAt ops)) o=some false)(hd:o.dst=some d)(hN:Nat.ble (d+1) N=true)(k:AB P N ops als Hs K r ((d,.val undef)::E) H):
  AB P N ops als Hs K ((i,false)::r) E H:=⟨o,d,_,ho,hd,lB hN,.no hw,k⟩
theorem AB.main {i:Nat}{r:List (Nat×Bool)}{E:Env}{H:List HE}(o:Oper)(ho:ops[i]? =some o)(hne:j0U als i=false)(h: ∀w0 R0,AO ⟨w0,a0t H,R0,N⟩ P ops (QS ⟨w0,a0t H,R0,N⟩ o.dst (fun v H'=>AB P N ops als Hs K r (b0d o.dst v E) H')) [o] (rst E (o.looksAt ops)) H):
  AB P N ops als Hs K ((i,true)::r) E H:=by
 have:n0O als i=none:=by unfold j0U at hne;exact Option.not_isSome_iff_eq_none.1 (by rw[hne];simp)
 rw[AB,this];exact⟨o,ho,h⟩
theorem AB.box {i:Nat}{r:List (Nat×Bool)}{E:Env}{H:List HE}(al:Al)(he:n0O als i=some al)(k: ∀b,AB P N ops als Hs K r ((al.d,.val (.pointer (some ⟨b,0,none⟩)))::E) (al.he b::H)):AB P N ops als Hs K ((i,true)::r) E H:=by rw[AB,he];exact k
theorem alsOk.nil {P:Program}{N:Nat}{ops:Array Oper}:alsOk P N ops []:=⟨.nil,fun _ h=>by cases h⟩
theorem alsOk.cons {P:Program}{N:Nat}{ops:Array Oper}{al:Al}{als:List Al}(h:al.ok P N ops)(hn:(als.map Al.i).contains al.i=false)(hs:alsOk P N ops als):alsOk P N ops (al::als):=by
 refine⟨?_,fun x hx=> ?_⟩
 ·rw[List.map_cons,List.nodup_cons]
  exact⟨fun hm=>(by rw[List.contains_iff_mem.2 hm]at hn;cases hn),hs.1⟩
 ·rcases List.mem_cons.1 hx with e|hx
  ·rw[e];exact h
  ·exact hs.2 x hx
theorem AB.nil {E:Env}{H:List HE}(h:K E H):AB P N ops als Hs K [] E H:=h
end
end Go.Proofs.YtojomcdjcpmnkaaGreat.A
namespace Go.Proofs.YtojomcdjcpmnkaaGreat.By
open Go.RowKit L A
attribute [local irreducible] AW AQ AO
def n0r:It→Prop
 | .mk k n b l=>l= []∧((k=0∨k=7)∧0≤n∧n<24∧b= []∨(k=2∨k=3)∧n=0∧b.length<24)
def okX:Nat→It→Prop
 |0,x=>n0r x
 |d+1,x=>n0r x∨match x with| .mk k n b l=>k=4∧n=0∧b= []∧l.length<24∧ ∀y∈l,okX d y
theorem d0D (k n:Int)(hk:0≤k∧k≤7)(hn:0≤n∧n<24):Sp Tryz.prog 166 [.val (.int .i64 k),.val (.int .u64 n)] [] (b0q 5 1 1 (a0a [u8 (32*k+n)])):=by
 have e:32*k+n=((u8 (32*k+n)).toNat:Int):=by rw[a0C (by omega)]
 have e2:a0c (a0o 1 (Value.int IntKind.u8 0)) (0*1) (AV.val (Value.int IntKind.u8 (32*k+n))).cells=a0a [u8 (32*k+n)]:=by
  show [AV.val (.int .u8 (32*k+n))]= [AV.val (.int .u8 ((u8 (32*k+n)).toNat:Int))]
  rw[←e]
 refine yr Tryz.func166 _ Tryz.ntmps166 (fun w0 R0=> ?_)
 refine zB (zr ?_)
 refine zc (zE (zm (zB (zr ?_))))
 refine zb ?_
 refine wl xq ?_
 refine zA ?_
 refine wl (O.conv rfl rfl (by exact wU8 (by omega))) ?_
 refine zQ ?_
 intro B1
 refine AO.g ?_
 refine G.closeRow (b:=B1) (n:=1) (cap:=1) 0 rfl rfl rfl (Nat.le_refl _) (by(unfold maxLen;omega)) ?_
 refine AO.u ?_
 dsimp only[List.set]
 refine zc (zE (zm (zB (zr ?_))))
 refine zc (zE (zm (zB (yT (zB (zr ?_))))))
 refine zb ?_
 refine wl (O.lss rfl rfl rfl (by exact n0J (by omega))) ?_
 refine zc (zE (zm ?_))
 refine AW.condT rfl (zB (zr ?_))
 refine zb ?_
 refine wl xq ?_
 refine wl (O.conv rfl rfl (by exact wU8 (by omega))) ?_
 refine zb ?_
 refine wl (O.conv rfl rfl (by exact wU8 (by omega))) ?_
 refine wl (O.add rfl rfl rfl (by exact wU8 (by omega))) ?_
 refine zQ ?_
 intro B2
 refine zc (zE (zm (yR ?_)))
 refine xN (y0 ?_)
 refine AQ.g ?_
 refine G.closeRow (n:=1) (cap:=1) 0 rfl rfl rfl (Nat.le_refl _) (by(unfold maxLen;omega)) ?_
 refine AQ.u ?_
 dsimp only[List.set]
 rw[e2]
 refine AQ.ret1 rfl rfl ⟨_,by repeat(first|exact List.Sublist.slnil|refine List.Sublist.cons_cons _ ?_|refine List.Sublist.cons _ ?_),List.Perm.refl _⟩ (⟨_,rfl,rfl,rfl⟩)
theorem m0W (n:Int)(hn:0≤n∧n<24):Sp Tryz.prog 122 [.agg [.val (.int .i64 0),.val (.int .u64 n),roB [],.ro false 0 []]] [] (Is (roB [u8 (32*0+n)])):=by
 refine yr Tryz.func122 _ Tryz.ntmps122 (fun w0 R0=> ?_)
 refine zB (zr ?_)
 refine ya ?_
 intro B1
 refine zc (zE (zm (zB (zr ?_))))
 refine zc (zE (zm (zB (zB (zr ?_)))))
 refine zq ?_
 refine zt (zE (zm (yT (zB (zB (zr ?_))))))
 refine wl (O.eql rfl rfl rfl (by exact beq_iff_eq.2 (by omega))) ?_
 refine zc (zE (zm ?_))
 refine AW.condT rfl (yI (zm ?_))
 refine AW.condT rfl (zB (zr ?_))
 refine zq ?_
 refine zt ?_
 refine zq ?_
 refine zt ?_
 refine AO.opRow (xl rfl Tryz.func166 rfl rfl rfl (d0D _ _ ⟨by omega,by omega⟩ ⟨by omega,by omega⟩)) rfl rfl rfl ?_
 intro V2 hV2
 refine zc (zE (zm (yR ?_)))
 refine xN (y0 ?_)
 refine AQ.g ?_
 refine z9 0 [2] ?_
 refine AQ.u ?_
 try dsimp only[List.map,List.eraseIdx,cA,cN]
 refine yd
theorem m0V (n:Int)(hn:0≤n∧n<24):Sp Tryz.prog 122 [.agg [.val (.int .i64 7),.val (.int .u64 n),roB [],.ro false 0 []]] [] (Is (roB [u8 (32*7+n)])):=by
 have e:224+n=((u8 (32*7+n)).toNat:Int):=by rw[a0C (by omega)];omega
 refine yr Tryz.func122 _ Tryz.ntmps122 (fun w0 R0=> ?_)
 refine zB (zr ?_)
 refine ya ?_
 intro B1
 refine zc (zE (zm (zB (zr ?_))))
 refine zc (zE (zm (zB (zB (zr ?_)))))
 refine zq ?_
 refine zt (zE (zm (yT (zB (zB (zr ?_))))))
 refine wl (O.eql rfl rfl rfl (by exact beq_eq_false_iff_ne.2 (by omega))) ?_
 refine zc (zE (zm ?_))
 refine AW.condF rfl (zr ?_)
 refine wl (O.eql rfl rfl rfl (by exact beq_eq_false_iff_ne.2 (by omega))) ?_
 refine zc (zE (zm ?_))
 refine AW.condF rfl (zB (zB (zr ?_)))
 refine wl (O.eql rfl rfl rfl (by exact beq_eq_false_iff_ne.2 (by omega))) ?_
 refine zc (zE (zm ?_))
 refine AW.condF rfl (zr ?_)
 refine wl (O.eql rfl rfl rfl (by exact beq_eq_false_iff_ne.2 (by omega))) ?_
 refine zc (zE (zm ?_))
 refine AW.condF rfl (zB (zr ?_))
 refine wl (O.eql rfl rfl rfl (by exact beq_eq_false_iff_ne.2 (by omega))) ?_
 refine zc (zE (zm ?_))
 refine AW.condF rfl (zB (zr ?_))
 refine wl (O.eql rfl rfl rfl (by exact beq_eq_false_iff_ne.2 (by omega))) ?_
 refine zc (zE (zm ?_))
 refine AW.condF rfl (zB (zr ?_))
 refine wl (O.eql rfl rfl rfl (by exact beq_eq_false_iff_ne.2 (by omega))) ?_
 refine zc (zE (zm ?_))
 refine AW.condF rfl (zB (zr ?_))
 refine wl (O.eql rfl rfl rfl (by exact beq_iff_eq.2 (by omega))) ?_
 refine zc (zE (zm ?_))
 refine AW.condT rfl (zB (zB (zr ?_)))
 refine zq ?_
 refine zt ?_
 refine wl (O.lss rfl rfl rfl (by exact n0J (by omega))) (zE (zm ?_))
 refine AW.condT rfl (zB (zr ?_))
 refine zq ?_
 refine zt ?_
 refine wl (O.add rfl rfl rfl (by exact l0L (by omega))) ?_
 refine wl (O.conv rfl rfl (by exact wU8 (by omega))) ?_
 refine zQ ?_
 intro B2
 refine zc (zE (zm (yR (y0 ?_))))
 refine xN (y0 ?_)
 refine AQ.g ?_
 refine G.freezeSl 0 2 rfl rfl ⟨Nat.le_refl _,by unfold maxLen;omega⟩ ?_;refine G.unfull 2 rfl ?_
 refine AQ.u ?_
 try dsimp only[List.map,List.eraseIdx,cA,cN]
 refine AQ.ret1 rfl rfl nS (⟨by show AV.ro false 1 [.val (.int .u8 (224+n))]=_;rw[e];rfl,rfl⟩)
theorem m0X (k:Int)(b:List UInt8)(hk:k=2∨k=3)(hb:b.length<24):Sp Tryz.prog 122 [.agg [.val (.int .i64 k),.val (.int .u64 0),roB b,.ro false 0 []]] [] (Is (roB (u8 (32*k+(b.length:Int))::b))):=by
 have e1:a0a [u8 (32*k+(b.length:Int))]++a0a b=a0a (u8 (32*k+(b.length:Int))::b):=rfl
 have e2:1+b.length=(u8 (32*k+(b.length:Int))::b).length:=by rw[cL];omega
 refine yr Tryz.func122 _ Tryz.ntmps122 (fun w0 R0=> ?_)
 refine zB (zr ?_)
 refine ya ?_
 intro B1
 refine zc (zE (zm (zB (zr ?_))))
 refine zc (zE (zm (zB (zB (zr ?_)))))
 refine zq ?_
 refine zt (zE (zm (yT (zB (zB (zr ?_))))))
 refine wl (O.eql rfl rfl rfl (by exact beq_eq_false_iff_ne.2 (by omega))) ?_
 refine zc (zE (zm ?_))
 refine AW.condF rfl (zr ?_)
 refine wl (O.eql rfl rfl rfl (by exact beq_eq_false_iff_ne.2 (by omega))) ?_
 refine zc (zE (zm ?_))
 refine AW.condF rfl (zB (zB (zr ?_)))
 refine yh ?_
 refine zc (zE (zm ?_))
 rcases hk with rfl|rfl
 ·refine AW.condT rfl (yI (zm ?_))
  refine AW.condT rfl (zB ?_)
  refine yv 9 ?_
  simp only[cT,cZ,cD,cO]
  refine yC ?_
  refine yD ?_
  refine yC ?_
  refine yD ?_
  refine wm (xm rfl rfl) ?_
  refine wm (O.conv rfl rfl (by exact l0L (by omega))) ?_
  refine FA.opN (xl rfl Tryz.func166 rfl rfl rfl (d0D _ _ ⟨by omega,by omega⟩ ⟨by omega,by omega⟩)) rfl rfl rfl rfl ?_
  refine yC ?_
  refine yD ?_
  refine wh ?_
  simp only[a0l,cN,cA,cP]
  rintro _ _ ⟨V2,rfl,hV2,rfl⟩
  simp only[cA,cN]
  refine zC 0 ?_
  intro V3 hV3
  refine zc (zE (zm (yR ?_)))
  refine xN (y0 ?_)
  rw[e1,e2]
  refine AQ.g ?_
  refine z9 0 [2] ?_
  refine AQ.u ?_
  try dsimp only[List.map,List.eraseIdx,cA,cN]
  refine yd
 ·refine AW.condF rfl (zr ?_)
  refine wl (O.eql rfl rfl rfl (by exact beq_iff_eq.2 (by omega))) ?_
  refine zc (zE (zm ?_))
  refine AW.condT rfl (zB ?_)
  refine yv 9 ?_
  simp only[cT,cZ,cD,cO]
  refine yC ?_
  refine yD ?_
  refine yC ?_
  refine yD ?_
  refine wm (xm rfl rfl) ?_
  refine wm (O.conv rfl rfl (by exact l0L (by omega))) ?_
  refine FA.opN (xl rfl Tryz.func166 rfl rfl rfl (d0D _ _ ⟨by omega,by omega⟩ ⟨by omega,by omega⟩)) rfl rfl rfl rfl ?_
  refine yC ?_
  refine yD ?_
  refine wh ?_
  simp only[a0l,cN,cA,cP]
  rintro _ _ ⟨V2,rfl,hV2,rfl⟩
  simp only[cA,cN]
  refine zC 0 ?_
  intro V3 hV3
  refine zc (zE (zm (yR ?_)))
  refine xN (y0 ?_)
  rw[e1,e2]
  refine AQ.g ?_
  refine z9 0 [2] ?_
  refine AQ.u ?_
  try dsimp only[List.map,List.eraseIdx,cA,cN]
  refine yd
 skip
abbrev f0Q (x:It):Prop:=Sp Tryz.prog 122 [.agg x.cells] [] (Is (roB x.enc))
theorem h0y {x:It}(h:n0r x):f0Q x:=by
 obtain⟨k,n,b,l⟩:=x
 unfold f0Q
 rcases h with⟨rfl,⟨rfl|rfl,hn,hn2,rfl⟩|⟨hk,rfl,hb⟩⟩
 ·rw[c0h,It.cells,c0R]
  exact m0W n ⟨hn,hn2⟩
 ·rw[c0h,It.cells,c0R]
  exact m0V n ⟨hn,hn2⟩
 rw[c0h,It.cells,c0R,show hnI k 0 b 0=(b.length:Int)from if_pos hk]
 exact m0X k b hk hb
theorem m0U {l:List It}(hm:l.length<24)(he:(b0r l).length≤100000)(hS: ∀q,q<l.length→f0Q (k0B l q)):f0Q (.mk 4 0 [] l):=by
 unfold f0Q
 rw[h0d]
 show Sp Tryz.prog 122 [.agg [.val (.int .i64 4),.val (.int .u64 0),roB [],.ro false l.length (c0R l)]] [] _
 refine yr Tryz.func122 _ Tryz.ntmps122 (fun w0 R0=> ?_)
 refine zB (zr ?_)
 refine ya ?_
 intro B1
 refine zc (zE (zm (zB (zr ?_))))
 refine zc (zE (zm (zB (zB (zr ?_)))))
 refine zq ?_
 refine zt (zE (zm (yT (zB (zB (zr ?_))))))
 refine wl (O.eql rfl rfl rfl (by exact beq_eq_false_iff_ne.2 (by omega))) ?_
 refine zc (zE (zm ?_))
 refine AW.condF rfl (zr ?_)
 refine wl (O.eql rfl rfl rfl (by exact beq_eq_false_iff_ne.2 (by omega))) ?_
 refine zc (zE (zm ?_))
 refine AW.condF rfl (zB (zB (zr ?_)))
 refine wl (O.eql rfl rfl rfl (by exact beq_eq_false_iff_ne.2 (by omega))) ?_
 refine zc (zE (zm ?_))
 refine AW.condF rfl (zr ?_)
 refine wl (O.eql rfl rfl rfl (by exact beq_eq_false_iff_ne.2 (by omega))) ?_
 refine zc (zE (zm ?_))
 refine AW.condF rfl (zB (zr ?_))
 refine wl (O.eql rfl rfl rfl (by exact beq_iff_eq.2 (by omega))) ?_
 refine zc (zE (zm ?_))
 refine AW.condT rfl (zr ?_)
 refine zq ?_
 refine zt ?_
 refine zR ?_
 refine xv ?_
 refine AO.opRow (xl rfl Tryz.func166 rfl rfl rfl (d0D _ _ ⟨by omega,by omega⟩ ⟨by omega,by omega⟩)) rfl rfl rfl ?_
 intro V2 hV2
 refine zc (zE (y5 (zm (zB (zB (zr ?_))))))
 refine zq ?_
 refine zv ?_
 refine zR ?_
 refine zb (zE (zm (yT ?_)))
 have hnl: ∀k,k≤l.length→(b0r (l.take k)).length≤(b0r l).length:=fun k hk=>by
  have h6:=congrArg List.length (e0l (l.take k) (l.drop k))
  rw[List.take_append_drop,cH]at h6
  omega
 obtain⟨h0,hh0⟩: ∃h0,h0=u8 (32*4+(l.length:Int)):=⟨_,rfl⟩
 rw[←hh0]
 refine zh [(67,_),(68,_)] (fun nn E H=> ∃(k:Nat) (V:Value) (o:List UInt8),(k≤l.length)∧(V.oneCell'=true)∧(o=h0::b0r (l.take k))∧nn=l.length-k∧E= [(3,.val V),(69,.val (.int .i64 (k:Int)))]∧H= [.row V 5 1 o.length (a0a o),.blk B1 147 4 [.val (.int .i64 4),.val (.int .u64 0),roB [],.ro false l.length (c0R l)]]) _ (⟨0,_,[h0],by omega,‹_›,rfl,rfl,rfl,rfl⟩) ?_
 rintro nn E H ⟨k,V,o,hk,hV,ho,rfl,rfl,rfl⟩
 dsimp only[cA,cN]
 have hol:o.length=1+(b0r (l.take k)).length:=by rw[ho,cL];omega
 have hkl:=hnl k hk
 refine zB (zr ?_)
 refine zN (zE (zm (zB ?_)))
 refine yk (fun hlt=> ?_) (fun hlt=> ?_)<;>(try simp only[wr]at hlt)
 ·have hkl:k<l.length:=by omega
  obtain⟨kk,nn',bb,ll,hx⟩: ∃kk nn' bb ll,k0B l k= .mk kk nn' bb ll:=by cases h:k0B l k;exact⟨_,_,_,_,rfl⟩
  have hg:((c0R l).drop (Int.toNat (k:Int)*4)).take 4= [.val (.int .i64 kk),.val (.int .u64 nn'),roB bb,.ro false ll.length (c0R ll)]:=by
   rw[p0d hkl (by omega),hx,It.cells]
  have hSk:=hS k hkl
  rw[hx]at hSk
  unfold f0Q at hSk
  rw[It.cells]at hSk
  have hsn:=a0i itN hkl
  have e1:=e0X (l.take k) (k0B l k)
  rw[←hsn,hx]at e1
  have h5:=hnl (k+1) (by omega)
  have e2:=congrArg List.length e1
  rw[cH]at e2
  generalize(It.mk kk nn' bb ll).enc=en at*
  refine yI (zm (zB (yT (zB (zr ?_)))))
  refine z8 ?_
  refine wl (O.loadRK rfl rfl (by exact hg) (by rfl)) ?_
  refine zd ?_
  intro B3
  refine za 0 (zE (zm (zr ?_)))
  refine zb ?_
  refine wl (O.loadK rfl rfl (by repeat(exact List.Mem.head _)) (by rfl) (by rfl)) ?_
  refine wl (xl rfl Tryz.func122 rfl rfl rfl hSk) ?_
  refine zC 1 ?_
  intro V4 hV4
  refine zc (zE (y5 (zm (zr ?_))))
  refine zA ?_
  refine zb (zE ?_)
  rw[show a0a o++a0a en=a0a (o++en)from(a0F _ _).symm,show o.length+en.length=(o++en).length from List.length_append.symm]
  refine zH _ _ _ (by omega) (⟨k+1,_,o++en,by omega,‹_›,by rw[ho,e1];rfl,rfl,rfl,rfl⟩)
 obtain rfl:k=l.length:=by omega
 rw[List.take_length]at ho
 subst ho
 refine xx ?_
 refine xp ?_
 refine xu ?_
 refine y2 (zm (zB (zr ?_)))
 refine zb ?_
 refine zc (zE (zm (yR ?_)))
 refine AQ.g ?_
 refine z9 0 [2] ?_
 refine AQ.u ?_
 try dsimp only[List.map,List.eraseIdx,cA,cN]
 refine yd
theorem g0O: ∀(d:Nat) (x:It),okX d x→x.enc.length≤100000→f0Q x
 |0,x,h,_=>h0y h
 |d+1,.mk k n b l,h,he=>by
  rcases h with h|⟨rfl,rfl,rfl,h4,h5⟩
  ·exact h0y h
  have he2:(b0r l).length≤100000:=by rw[h0d,cL]at he;omega
  refine m0U h4 he2 fun q hq=>g0O d _ (h5 _ (b0u itN hq)) ?_
  have h6:=congrArg List.length (e0l (l.take q) (l.drop q))
  have h7:=congrArg List.length (e0X (l.take q) (k0B l q))
  have h8:=congrArg List.length (e0l (l.take (q+1)) (l.drop (q+1)))
  rw[←a0i itN hq]at h7
  rw[List.take_append_drop,cH]at h8
  rw[cH]at h7
  omega
end Go.Proofs.YtojomcdjcpmnkaaGreat.By
namespace Go.Proofs.YtojomcdjcpmnkaaGreat.A
open Go.RowKit L
section
variable {Γ:Cx}{P:Program}{Q:Exit→Act→World→Prop}{E:Env}{H:List HE}{N:Nat}{o:Oper}{ops:Array Oper}{rest:List Oper}
theorem AO.callMV {f:FuncId}{g:Operand}{cap:List AV}{d:Nat}{xs:List Operand}{ats:Array TypeId}{args:List AV}{H0 H1:List HE}{Post:AV→List HE→Prop}{fn:Func}(ho:o.op= .call {callee:= .value g,args:=xs.toArray,argTypes:=ats})(hgd:o.guard=none)(hg:ev E g=some (.fn (.func f) cap))(hfn:P.funcs[f]? =some fn)(hn:(fn.name== "runtime.NumGoroutine")=false)(hb:fn.body.isNone=false)
  (hx:evs E xs=some args) (hd:o.dst=some d) (hN:d<Γ.N) (hH:H.Perm (H0++H1)) (h:Sp P f (args++cap) H0 Post) (next: ∀r H',Post r H'→AO Γ P ops Q rest ((d,r)::E) (H'++H1)):AO Γ P ops Q (o::rest) E H:=fun R a W hs ha=>by
 have hs0:=hs.perm hH.symm
 obtain⟨cs,h4,h5⟩:=(ha.ev hg).fn_inv
 have hrun:(execOp a.eval o).run P W= .ok (.enter f ((xs.map a.eval)++cs).toArray) W:=by
  simp[execOp,ho,resolve,Deferred.ofValue,h4,invoke,callFunc,hfn]
  rw[if_neg (by simpa using hn),if_neg (fun e=>by rw[e]at hb;cases hb)]
 have hc:=h W R (xs.map a.eval++cs) hs.rlt (fun e he=>⟨hs0.ok e (List.mem_append_left _ he),fun b hb=>(hs0.own e (List.mem_append_left _ he) b hb).2⟩) (List.pairwise_append.1 hs0.disj).1 ((ha.evs hx).app h5)
 unfold wpList
 rw[if_pos (by unfold Region.wanted;rw[hgd])]
 refine .inl ?_
 unfold Oper.wp
 rw[hrun]
 refine Calls.mono hc ?_
 rintro e W' ⟨u,r,H',R',rfl,hP,hs',hv⟩
 show wpList P ops Q rest (a.put o.dst u) W'
 rw[hd]
 have hS0: ∀b,a0t H0 b→Γ.w0.heap.size≤b∨Γ.S b:=fun b ⟨e,he,hb⟩=>(hs0.own e (List.mem_append_left _ he) b hb).1
 have hnR: ∀b,a0t H0 b→ ¬R b:=fun b ⟨e,he,hb⟩=>(hs0.own e (List.mem_append_left _ he) b hb).2
 have h1lt: ∀e∈H1,∀b,e.foot b→b<W.heap.size:=fun e he b hb=>HE.ok_lt (hs0.ok e (List.mem_append_right _ he)) hb
 have h10: ∀e∈H1,∀b,e.foot b→ ¬a0t H0 b:=fun e he b hb ⟨f,hf,hb'⟩=>(List.pairwise_append.1 hs0.disj).2.2 f hf e he b hb' hb
 have hR: ∀b,R b→W'.heap[b]? =W.heap[b]? :=fun b hb=>hs'.mods.block b (hs.rlt b hb) fun hh=>hnR b hh hb
 refine next r H' hP R' _ W' ⟨Mods.then hs.mods hs'.mods fun b hb hh=> ?_,hs'.rlt,fun b hb=>hs'.rsub b (hs.rsub b hb),fun b hb=> ?_,?_,?_,?_⟩ ((ha.mono hs'.rsub hR).put hN hv)
 ·rcases hS0 b hh with h|h
  ·omega
  ·exact h
 ·rcases hs'.rnew b hb with h|h|h
  ·exact hs.rnew b h
  ·exact .inr (.inl (Nat.le_trans hs.mods.size h))
  ·exact .inr (hS0 b h)
 ·intro e he
  rcases List.mem_append.1 he with he|he
  ·exact hs'.ok e he
  ·exact HE.ok_mono hs'.rsub hR hs'.mods.size (fun b hb=>hs'.mods.block b (h1lt e he b hb) (h10 e he b hb)) (hs0.ok e (List.mem_append_right _ he))
 ·intro e he b hb
  rcases List.mem_append.1 he with he|he
  ·obtain⟨h2,h3⟩:=hs'.own e he b hb
   refine⟨?_,h3⟩
   rcases h2 with h2|h2
   ·exact .inl (Nat.le_trans hs.mods.size h2)
   ·exact hS0 b h2
  ·refine⟨(hs0.own e (List.mem_append_right _ he) b hb).1,fun hr=> ?_⟩
   rcases hs'.rnew b hr with h|h|h
   ·exact(hs0.own e (List.mem_append_right _ he) b hb).2 h
   ·have h5:=h1lt e he b hb
    exact absurd h (by simpa using h5)
   ·exact h10 e he b hb h
 ·rw[List.pairwise_append]
  refine⟨hs'.disj,(List.pairwise_append.1 hs0.disj).2.1,fun e he f hf b hb hb'=> ?_⟩
  rcases(hs'.own e he b hb).1 with h|h
  ·have h5:=h1lt f hf b hb'
   exact absurd h (by simpa using h5)
  ·exact h10 f hf b hb' h
theorem AO.callMV1 {f:FuncId}{g:Operand}{cap:List AV}{d:Nat}{xs:List Operand}{ats:Array TypeId}{args:List AV}{i:Nat}{e e':HE}{v:AV}{H':List HE}{fn:Func}(ho:o.op= .call {callee:= .value g,args:=xs.toArray,argTypes:=ats})(hgd:o.guard=none)(hg:ev E g=some (.fn (.func f) cap))(hfn:P.funcs[f]? =some fn)(hn:(fn.name== "runtime.NumGoroutine")=false)(hb:fn.body.isNone=false)
  (hx:evs E xs=some args) (hd:o.dst=some d) (hN:Nat.ble (d+1) Γ.N=true) (hi:H[i]? =some e) (h:Sp P f (args++cap) [e] (IsM v e')) (hH:H.set i e'=H') (next:AO Γ P ops Q rest ((d,v)::E) H'):AO Γ P ops Q (o::rest) E H:=
 AO.callMV (H0:= [e]) (H1:=H.eraseIdx i) ho hgd hg hfn hn hb hx hd (lB hN) (c0F hi) h (by
  rintro _ _ ⟨rfl,rfl⟩
  exact AO.perm (by rw[←hH];exact f0u hi) next)
theorem c0D {R:Nat→Prop}{W:World}{a:Act}{low high:Option Operand}{n cap:Nat}{l h:Int}(ha:RelA N R W E a)(hl:d0u E low 0=some l)(hh:d0u E high n=some h)(h0:0≤l∧l≤h∧h≤cap):
  (Instr.sliceBounds false n cap (low.map a.eval) (high.map a.eval) none).run P W= .ok (l.toNat,h.toNat,cap) W:=by
 obtain⟨h1,h2,hhc⟩:=h0
 cases high with
 | none=>
  obtain rfl:(n:Int)=h:=by simpa[d0u]using hh
  cases low with
  |none=>
   obtain rfl:(0:Int)=l:=by simpa[d0u]using hl
   simp[Instr.sliceBounds]
  |some x=>
   obtain⟨k,hk⟩:=f0c ha hl
   simp[Instr.sliceBounds,Instr.sliceBound,hk,asIntOf,h1,h2]
 | some y=>
  obtain⟨k',hk'⟩:=f0c ha hh
  have h4:0≤h:=by omega
  cases low with
  |none=>
   obtain rfl:(0:Int)=l:=by simpa[d0u]using hl
   simp[Instr.sliceBounds,Instr.sliceBound,hk',asIntOf,h4,hhc]
  |some x=>
   obtain⟨k,hk⟩:=f0c ha hl
   have h5:l≤max h 0:=by omega
   simp[Instr.sliceBounds,Instr.sliceBound,hk,hk',asIntOf,h1,h4,hhc]
   omega
theorem O.sliceArr {T:Nat}{x:Operand}{low high:Option Operand}{b off n:Nat}{l h:Int}{sz:Nat}[hs:TyL P T n sz](ho:o.op= .slice T x low high none)(hx:ev E x=some (.val (.pointer (some ⟨b,off,none⟩))))(hl:d0u E low 0=some l)(hh:d0u E high n=some h)(h0:0≤l∧l≤h∧h≤n)
  (hc:l<n):OpW P N o E H (Is (.val (.slice (some ⟨b,off+l.toNat*sz,none⟩) (h.toNat-l.toNat) (n-l.toNat)))):= .of_run fun R a W h1 h2 ha=>by
 obtain⟨U,i,hu,hi,hi2⟩:=hs.ax
 have hb:=c0D (P:=P) (W:=W) ha hl hh h0
 refine⟨_,?_,.val _⟩
 have hne: ¬n=l.toNat:=by omega
 simp only[execOp,ho,(ha.ev hx).val_inv,Instr.sliceAt,Instr.sureAddr,run_underlying hu,Sem.run_bind,Result.andThen_ok,hb,sizeOf,typeInfo,hi,hi2,run_program,Sem.run_pure,Option.map_none]
 simp[hne,a0x]
theorem O.sliceArrR {T:Nat}{x:Operand}{low high:Option Operand}{j n m:Nat}{xs ys:List AV}{l h:Int}{sz:Nat}[hs:TyL P T n sz](ho:o.op= .slice T x low high none)(hx:ev E x=some (.rp xs j))(hl:d0u E low 0=some l)(hh:d0u E high n=some h)(h0:0≤l∧l≤h∧h≤n)
  (hc:l<n) (hn:n≤maxLen) (hm:h.toNat-l.toNat=m) (hy:(xs.drop (j+l.toNat*sz)).take (m*sz)=ys):OpW P N o E H (Is (.ro false m ys)):= .of_run fun R a W h1 h2 ha=>by
 obtain⟨U,i,hu,hi,hi2⟩:=hs.ax
 have hb:=c0D (P:=P) (W:=W) ha hl hh h0
 have hv:=ha.ev hx
 generalize hux:a.eval x=u at*
 cases hv with
 | rp _ _ b off us hb' hcs hr=>
  have hne: ¬n=l.toNat:=by omega
  refine⟨.slice (some ⟨b,off+(j+l.toNat*sz),none⟩) (h.toNat-l.toNat) (n-l.toNat),?_,?_⟩
  ·simp only[execOp,ho,hux,Instr.sliceAt,Instr.sureAddr,run_underlying hu,Sem.run_bind,Result.andThen_ok,hb,sizeOf,typeInfo,hi,hi2,run_program,Sem.run_pure,Option.map_none]
   simp[hne,a0x,Nat.add_assoc]
  ·rw[hm]
   subst hy
   refine .ro _ _ _ b (off+(j+l.toNat*sz)) _ (fun q=>us (j+l.toNat*sz+q)) hb' (fun q hq=> ?_) (fun q hq=> ?_) (by omega) (by omega) (fun h=>by cases h)
   ·simp at hq
    rw[Nat.add_assoc]
    exact hcs _ (by omega)
   ·simp only[List.getElem_take,List.getElem_drop]
    simp at hq
    exact hr _ (by omega)
theorem O.sliceArrK {p q:Nat}{T:Nat}{x:Operand}{low high:Option Operand}{b off n:Nat}{l h:Int}{sz:Nat}[hs:TyL P T n sz](ho:o.op= .slice T x low high none)(hx:ev E x=some (.val (.pointer (some ⟨b,off,none⟩))))(hl:d0u E low 0=some l)(hh:d0u E high n=some h)(e1:l=(p:Int))(e2:h=(q:Int))(h0:p≤q∧q≤n)
  (hc:p<n):OpW P N o E H (Is (.val (.slice (some ⟨b,off+p*sz,none⟩) (q-p) (n-p)))):=by
 subst e1;subst e2
 have:=O.sliceArr (P:=P) (N:=N) (H:=H) ho hx hl hh ⟨by omega,by omega,by omega⟩ (by omega)
 simpa using this
theorem O.sliceArrRK {p q:Nat}{T:Nat}{x:Operand}{low high:Option Operand}{j n:Nat}{xs ys:List AV}{l h:Int}{sz:Nat}[hs:TyL P T n sz](ho:o.op= .slice T x low high none)(hx:ev E x=some (.rp xs j))(hl:d0u E low 0=some l)(hh:d0u E high n=some h)(e1:l=(p:Int))(e2:h=(q:Int))(h0:p≤q∧q≤n)
  (hc:p<n) (hn:n≤maxLen) (hy:(xs.drop (j+p*sz)).take ((q-p)*sz)=ys):OpW P N o E H (Is (.ro false (q-p) ys)):=by
 subst e1;subst e2
 exact O.sliceArrR (P:=P) (N:=N) (H:=H) ho hx hl hh ⟨by omega,by omega,by omega⟩ (by omega) hn (by simp) (by simpa using hy)
theorem l0F {p:AV→Bool}: ∀{xs:List AV} (n:Nat),xs.all p=true→(xs.take n).all p=true:=fun{xs} n h=>by
 rw[List.all_eq_true]at h⊢
 exact fun x hx=>h x (List.mem_of_mem_take hx)
theorem AO.copyIn {Td Ts:Nat}{x y:Operand}{b off n c m i T' room U bs:Nat}{full:Bool}{ys xs zs:List AV}{zz:Value}{H':List HE}{d:Option Tmp}[hs:TyS P Td U 1 bs zz](ho:o.op= .call {callee:= .builtin .copy,args:= #[x,y],argTypes:= #[Td,Ts]})(hgd:o.guard=none)
  (hx:ev E x=some (.val (.slice (some ⟨b,off,none⟩) n c))) (hy:ev E y=some (.ro full m ys)) (hlen:ys.length=m) (hone:ys.all AV.one=true) (hi:H[i]? =some (.blk b T' room xs)) (hfit:off+min m n≤xs.length) (hz:a0c xs off (ys.take (min m n))=zs) (hH:H.set i (.blk b T' room zs)=H')
  (hd:o.dst=d) (hN: ∀q,d=some q→q<Γ.N) (next: ∀E',(E'=match d with|some q=>(q,.val (.int .i64 (min m n:Nat)))::E|none=>E)→AO Γ P ops Q rest E' H'):AO Γ P ops Q (o::rest) E H:=fun R a W hs' ha=>by
 have hmem:=List.mem_of_getElem? hi
 obtain⟨us,cs,hb,hsz,ht,hr⟩:=hs'.ok _ hmem
 have hxs:xs.length≤cs.size:=by
  have:=hr.1
  have h5:cs.toList.length=cs.size:=Array.length_toList
  rw[←ht,List.length_take]at this;omega
 obtain⟨vs,hvl,hvr,hrun⟩: ∃vs:List Value,vs.length=min m n∧RelL R W (ys.take (min m n)) vs∧(Builtin.copy_ #[Td,Ts] o.type #[a.eval x,a.eval y]).run P W= .ok (goInt ((min m n:Nat):Int)) (if min m n=0 then W else W.setRow b (cs.toList.take off++vs++cs.toList.drop (off+min m n)).toArray):=by
  obtain⟨inf,hi1,hi2, -⟩:=hs.el
  have hsz1:(P.info? U).map (·.size)=some 1:=by rw[hi1];simp[hi2]
  have hvx:=(ha.ev hx).val_inv
  have hvy:=ha.ev hy
  rw[hvx]
  generalize hux:a.eval y=u at*
  cases hvy with
  |emp _ ad cap h3 h4=>
   refine⟨[],by simp,⟨by simp,by simp⟩,?_⟩
   have:=run_copy_none (P:=P) W Td Ts o.type U (some ⟨b,off,none⟩) ad n c 0 cap hs.ty hsz1 (by simp)
   rw[this];simp[Nat.min_eq_left (Nat.zero_le n)]
  | ro _ _ _ b2 off2 cap us2 hb' hcs hr2 h3 h4 h5=>
   by_cases h0:min m n=0
   ·refine⟨[],by simp[h0],by rw[h0];exact⟨by simp,by simp⟩,?_⟩
    have:=run_copy_none (P:=P) W Td Ts o.type U (some ⟨b,off,none⟩) (some ⟨b2,off2,none⟩) n c m cap hs.ty hsz1 h0
    rw[this,if_pos h0,h0];rfl
   ·let vs:=(List.range (min m n)).map us2
    have hvs: ∀q (hq:q<min m n),vs[q]? =some (us2 q):=fun q hq=>by simp[vs,hq]
    have hvsl:vs.length=min m n:=by simp[vs]
    refine⟨vs,hvsl,⟨by rw[List.length_take,hvsl,hlen];omega,fun q hq=> ?_⟩,?_⟩
    ·rw[List.length_take,hlen]at hq
     have hq':q<min m n:=by omega
     have:=hr2 q (by rw[hlen];omega)
     simp only[List.getElem_take]
     rw[List.getD,hvs q hq']
     exact this
    ·have h1: ∀v∈vs,v.oneCell'=true:=fun v hv=>by
      obtain⟨q,hq,rfl⟩:=List.mem_map.1 hv
      have hq:=List.mem_range.1 hq
      have hql:q<ys.length:=by rw[hlen];omega
      exact(hr2 q hql).one (by rw[List.all_eq_true]at hone;exact hone _ (List.getElem_mem hql))
     have:=run_copy_row (P:=P) W Td Ts o.type U b off n c ⟨b2,off2,none⟩ m cap cs T' vs hs.ty hsz1 hb (by rw[hvsl]) (fun q v hq=>by
      have hql:q<min m n:=by have:=(List.getElem?_eq_some_iff.1 hq).1;omega
      rw[hvs q hql]at hq
      cases hq
      rw[a0x]
      exact hcs q (by rw[hlen];omega)) (by rw[hvsl];omega) h1
     rw[this,if_neg h0,hvsl]
 have hone': ∀v∈vs,v.oneCell'=true:=fun v hv=>by
  obtain⟨q,hq,rfl⟩:=List.getElem_of_mem hv
  have hql:q<(ys.take (min m n)).length:=by rw[←hvr.1];exact hq
  have h6:=hvr.2 q hql
  have h7:=l0F (min m n) hone
  rw[List.all_eq_true]at h7
  have:=h6.one (h7 _ (List.getElem_mem hql))
  simpa[List.getD,hq]using this
 have hylen:(ys.take (min m n)).length=min m n:=by rw[←hvr.1,hvl]
 unfold wpList
 rw[if_pos (by unfold Region.wanted;rw[hgd])]
 refine .inl ?_
 unfold Oper.wp
 have hex:(execOp a.eval o).run P W= .ok (.value (.int .i64 (min m n:Nat))) (if min m n=0 then W else W.setRow b (cs.toList.take off++vs++cs.toList.drop (off+min m n)).toArray):=by
  simp[execOp,ho,resolve,invoke,builtin,hrun,Result.andThen,goInt]
 rw[hex]
 show wpList P ops Q rest (a.put o.dst _) _
 rw[hd]
 subst hH
 by_cases h0:min m n=0
 ·rw[if_pos h0]
  have hzx:zs=xs:=by
   rw[←hz]
   have:ys.take (min m n)= []:=by rw[h0];rfl
   rw[this];rfl
  have hset:H.set i (.blk b T' room zs)=H:=by
   rw[hzx]
   obtain⟨hil,he⟩:=List.getElem?_eq_some_iff.1 hi
   rw[←he];exact List.set_getElem_self hil
  refine next _ rfl R _ W (by rw[hset];exact hs') ?_
  cases d with
  |none=>exact ha.none _
  |some q=>exact ha.put (hN q rfl) (.val _)
 ·rw [if_neg h0]
  have hm:Mods (fun c=>(HE.blk b T' room xs).foot c) W (W.setRow b (cs.toList.take off++vs++cs.toList.drop (off+min m n)).toArray):=Mods.setRow (S:=fun c=>(HE.blk b T' room xs).foot c) (Mods.refl _ _) (fun _=>rfl) _
  have hR: ∀c,R c→(W.setRow b (cs.toList.take off++vs++cs.toList.drop (off+min m n)).toArray).heap[c]? =W.heap[c]? :=fun c hc=>hm.block c (hs'.rlt c hc) fun hh=>(hs'.own _ hmem c hh).2 hc
  have hok:(HE.blk b T' room zs).ok R (W.setRow b (cs.toList.take off++vs++cs.toList.drop (off+min m n)).toArray):=by
   refine⟨_,_,setRow_heap W b cs _ T' _ hb,?_,rfl,?_⟩
   ·rw[List.size_toArray,cH,cH,List.length_take,List.length_drop,Array.length_toList,hvl];omega
   ·rw [←hz,b0y _ _ _ (by rw[hylen];omega),hylen]
    have e:(cs.toList.take off++vs++cs.toList.drop (off+min m n)).take (xs.take off++ys.take (min m n)++xs.drop (off+min m n)).length=us.take off++vs++us.drop (off+min m n):=by
     have hul:us.length=xs.length:=hr.1
     generalize hzz:ys.take (min m n)=zz at*
     generalize min m n=k at*
     apply List.ext_getElem?
     intro q
     subst ht
     simp only[List.getElem?_take,List.getElem?_append,cH,List.length_take,List.length_drop,hvl,hylen,Array.length_toList,List.getElem?_drop]
     by_cases q1:q<off
     ·simp[q1,show q<xs.length by omega,show q<min off xs.length+k+(xs.length-(off+k)) by omega,show q<min off cs.size+k by omega,show q<min off cs.size by omega,show q<min off (min xs.length cs.size)+k by omega,show q<min off (min xs.length cs.size) by omega]
     ·by_cases q2:q<off+k
      ·simp[show min off xs.length=off by omega,show min off cs.size=off by omega,show min xs.length cs.size=xs.length by omega,q1,q2,show q<off+k+(xs.length-(off+k)) by omega]
      ·by_cases q3:q<xs.length
       ·simp[show min off xs.length=off by omega,show min off cs.size=off by omega,show min xs.length cs.size=xs.length by omega,q1,q2,show q<off+k+(xs.length-(off+k)) by omega,show off+k+(q-(off+k))<xs.length by omega]
       ·simp[show min off xs.length=off by omega,show min off cs.size=off by omega,show min xs.length cs.size=xs.length by omega,q1,q2,show ¬q<off+k+(xs.length-(off+k)) by omega,show ¬off+k+(q-(off+k))<xs.length by omega]
    show RelL R _ _ (List.take _ (cs.toList.take off++vs++cs.toList.drop (off+min m n)))
    rw[e]
    exact(((hr.take off).app hvr).app (hr.drop (off+min m n))).mono (fun _ h=>h) hR
  have hs2:=hs'.setEntry (e':= .blk b T' room zs) hi hm (fun c hc=> .inl hc) hok
  refine next _ rfl R _ _ hs2 ?_
  cases d with
  |none=>exact(ha.keep hR).none _
  |some q=>exact(ha.keep hR).put (hN q rfl) (.val _)
def Plain (v:AV):Prop:=(∃c,v= .val c)∨ ∃xs,v= .agg xs∧ ∀x∈xs,∃c,x= .val c
theorem Plain.val {c:Value}:Plain (.val c):= .inl ⟨c,rfl⟩
theorem Plain.rel {v:AV}(h:Plain v){R R':Nat→Prop}{W W':World}{u:Value}(hv:RelV R W v u):RelV R' W' v u:=by
 rcases h with⟨c,rfl⟩|⟨xs,rfl,hx⟩
 ·rw[hv.val_inv];exact .val _
 ·cases hv with
  |agg _ cs hs hr=>
   refine .agg _ cs hs fun j hj=> ?_
   obtain⟨c,hc⟩:=hx xs[j] (List.getElem_mem hj)
   have:=hr j hj
   rw[hc]at this⊢
   rw[this.val_inv];exact .val _
inductive LendB (b:Nat) (ys:List AV):List AV→List AV→Prop
 |nil:LendB b ys [] []
 |same {a:AV} {r r':List AV}:LendB b ys r r'→LendB b ys (a::r) (a::r')
 |lend {j:Nat} {r r':List AV}:LendB b ys r r'→LendB b ys (.val (.pointer (some ⟨b,j,none⟩))::r) (.rp ys j::r')
theorem p0s {R:Nat→Prop}{W:World}{b T room j:Nat}{xs:List AV}(h:HE.ok R W (.blk b T room xs)):RelV (fun c=>R c∨c=b) W (.rp xs j) (.pointer (some ⟨b,j,none⟩)):=by
 have:=RelV.rp (R:=fun c=>R c∨c=b) (W:=W) xs j b 0 (fun q=>(W.cell? ⟨b,0+q,none⟩).getD undef) (.inr rfl) (fun q hq=>by
  obtain⟨u,hu,_⟩:=c0O h (j:=q) (v:=xs[q]) (by simp[hq])
  rw[Nat.zero_add,hu];rfl) (fun q hq=>by
  obtain⟨u,hu,hr⟩:=c0O h (j:=q) (v:=xs[q]) (by simp[hq])
  rw[Nat.zero_add,hu]
  exact hr.mono (fun _ h=> .inl h) (fun _ _=>rfl))
 simpa using this
theorem LendB.rel {R:Nat→Prop}{W:World}{b T room:Nat}{xs:List AV}(h:HE.ok R W (.blk b T room xs)){a a':List AV}(hl:LendB b xs a a'): ∀{us:List Value},RelL R W a us→RelL (fun c=>R c∨c=b) W a' us:=by
 induction hl with
 |nil=>intro us h;exact h.mono (fun _ h=> .inl h) (fun _ _=>rfl)
 |same _ ih=>
  intro us h
  obtain⟨u,r,rfl,h1,h2⟩:=h.uncons
  exact RelL.cons (h1.mono (fun _ h=> .inl h) (fun _ _=>rfl)) (ih h2)
 |lend _ ih=>
  intro us h'
  obtain⟨u,r,rfl,h1,h2⟩:=h'.uncons
  rw[h1.val_inv]
  exact RelL.cons (p0s h) (ih h2)
theorem O.callLB {f:FuncId}{xs:List Operand}{ats:Array TypeId}{args args':List AV}{v:AV}{b T room:Nat}{ys:List AV}{fn:Func}(ho:o.op= .call {callee:= .value (.func f),args:=xs.toArray,argTypes:=ats})(hfn:P.funcs[f]? =some fn)(hn:(fn.name== "runtime.NumGoroutine")=false)(hb:fn.body.isNone=false)
  (hx:evs E xs=some args) (hm:HE.blk b T room ys∈H) (h:Sp P f args' [] (Is v)) (hp:Plain v) (hl:LendB b ys args args'):OpW P N o E H (Is v):=fun R a W h0 h2 h3 ha=>by
 have hlt: ∀c,R c∨c=b→c<W.heap.size:=by
  rintro c (hb|rfl)
  ·exact h0 c hb
  ·exact HE.ok_lt (h2 _ hm) rfl
 unfold Oper.wp
 rw[b0z ho hfn hn hb,List.map_toArray]
 have hc:=h W _ (xs.map a.eval) hlt (fun e he=>by cases he) .nil (hl.rel (h2 _ hm) (ha.evs hx))
 refine Calls.mono hc ?_
 rintro e W' ⟨u,r,H',R',rfl,⟨rfl,rfl⟩,hs,hv⟩
 have p:=d0L hs hv hlt
 exact⟨u,r,[],R,rfl,⟨rfl,rfl⟩,p.ext,fun _ h=>h,fun _ h=> .inl h,hp.rel hv,fun _ he=>(by cases he),.nil⟩
end
theorem p0V {a b:Int}(h:0≤a):a.tmod b=a%b:=Int.tmod_eq_emod_of_nonneg h
theorem r0B {a b:Int}(h:0≤a∧a≤9223372036854775807)(hb:0<b):IntKind.i64.wrap (a.tdiv b)=a/b:=by
 rw[Int.tdiv_eq_ediv_of_nonneg h.1]
 have h1:0≤a/b:=Int.ediv_nonneg h.1 (by omega)
 have h2:a/b≤a:=Int.ediv_le_self b h.1
 exact f0U ⟨by omega,by omega⟩
def fnB (n:Nat)(f:Nat→UInt8):List UInt8:=(List.range n).map f
def arB (n:Nat)(f:Nat→UInt8):List AV:=a0a (fnB n f)
theorem d0b (n:Nat)(f:Nat→UInt8):(fnB n f).length=n:=by simp[fnB]
theorem a0b (n:Nat)(f:Nat→UInt8):(arB n f).length=n:=by simp[arB,a0a,fnB]
theorem b0Z (n:Nat)(f:Nat→UInt8):arB n f=(List.range n).map fun q=>AV.val (.int .u8 ((f q).toNat:Int)):=by simp[arB,a0a,fnB,Function.comp_def]
theorem a0u {n:Nat}{f:Nat→UInt8}{k:Nat}(h:k<n){j:Nat}(hj:j=k):(arB n f)[j]? =some (.val (.int .u8 ((f k).toNat:Int))):=by subst hj;rw[b0Z];simp[h]
theorem e0e {n:Nat}{f g:Nat→UInt8}(h: ∀q,q<n→f q=g q):fnB n f=fnB n g:=List.map_congr_left fun q hq=>h q (List.mem_range.1 hq)
theorem a0e {n:Nat}{f g:Nat→UInt8}(h: ∀q,q<n→f q=g q):arB n f=arB n g:=congrArg a0a (e0e h)
theorem p0g {n:Nat}{f:Nat→UInt8}{j k:Nat}(h:j+k≤n):((fnB n f).drop j).take k=fnB k fun q=>f (j+q):=by
 apply List.ext_getElem?
 intro q
 by_cases hq:q<k
 ·simp[fnB,hq,List.getElem?_take,show j+q<n by omega]
 ·simp[fnB,hq,List.getElem?_take]
theorem m0q {n:Nat}{f:Nat→UInt8}{j k:Nat}(h:j+k≤n):((arB n f).drop j).take k=arB k fun q=>f (j+q):=by
 rw[arB,a0a,←List.map_drop,←List.map_take,p0g h];rfl
theorem c0w (n:Nat)(f:Nat→UInt8):(arB n f).all AV.one=true:=by
 rw[List.all_eq_true,b0Z]
 intro x hx
 obtain⟨q,_,rfl⟩:=List.mem_map.1 hx
 rfl
theorem j0E (n:Nat)(f:Nat→UInt8):Plain (.agg (arB n f)):= .inr ⟨_,rfl,fun x hx=>by
 rw[b0Z]at hx
 obtain⟨q,_,rfl⟩:=List.mem_map.1 hx
 exact⟨_,rfl⟩⟩
theorem a0I {n:Nat}{f:Nat→UInt8}{k:Nat}(h:k<n)(v:UInt8){j:Nat}(hj:j=k):a0c (arB n f) j [.val (.int .u8 (v.toNat:Int))]=arB n (fun q=>if q=k then v else f q):=by
 subst hj
 show(arB n f).set j _=_
 apply List.ext_getElem?
 intro q
 rw[List.getElem?_set,b0Z,b0Z]
 by_cases hq:q<n
 ·by_cases e:j=q
  ·subst e;simp[h]
  ·simp[hq,e,show ¬q=j from fun e'=>e e'.symm]
 ·by_cases e:j=q
  ·subst e;omega
  ·simp[hq,e]
theorem d0h {n:Nat}{f g:Nat→UInt8}{j k:Nat}(h:j+k≤n):a0c (arB n f) j (arB k g)=arB n (fun q=>if j≤q∧q<j+k then g (q-j)else f q):=by
 rw[b0y _ _ _ (by rw[a0b,a0b];omega),a0b]
 apply List.ext_getElem?
 intro q
 simp only[List.getElem?_append,cH,List.length_take,a0b,List.getElem?_take,List.getElem?_drop]
 rw[b0Z,b0Z,b0Z]
 by_cases q1:q<j
 ·simp[q1,show q<n by omega,show q<min j n+k by omega,show q<min j n by omega,show ¬j≤q by omega]
 ·by_cases q2:q<j+k
  ·simp[q1,q2,show min j n=j by omega,show j≤q by omega,show q-j<k by omega,show q<n by omega]
  ·by_cases q3:q<n
   ·simp[q1,q2,q3,show min j n=j by omega,show j+k+(q-(j+k))=q by omega]
   ·simp[q1,q2,q3,show min j n=j by omega,show n≤j+k+(q-(j+k)) by omega]
theorem d0W {xs cs:List AV}(h:xs.length=cs.length):a0c xs 0 cs=cs:=by
 rw[b0y _ _ _ (by omega)]
 simp[h]
theorem b0l {xs:List AV}{n:Nat}{f:Nat→UInt8}(h:xs.length=n):a0c xs 0 (arB n f)=arB n f:=d0W (by rw[h,a0b])
theorem f0p (n:Nat)(f:Nat→UInt8):roB (fnB n f)= .ro false n (arB n f):=by unfold roB;rw[d0b];rfl
end Go.Proofs.YtojomcdjcpmnkaaGreat.A
namespace Go.Proofs.YtojomcdjcpmnkaaGreat.By
open Go.RowKit L A
def beB:Nat→Nat→List UInt8
 |0,_=> []
 |k+1,n=>beB k (n/256)++[UInt8.ofNat n]
def i0A (m n:Nat):List UInt8:=
 if n<24 then [UInt8.ofNat (32*m+n)]else if n<256 then UInt8.ofNat (32*m+24)::beB 1 n else if n<65536 then UInt8.ofNat (32*m+25)::beB 2 n
 else if n<4294967296 then UInt8.ofNat (32*m+26)::beB 4 n else UInt8.ofNat (32*m+27)::beB 8 n
def b0P (b:List UInt8):List UInt8:=i0A 2 b.length++b
def i0g (b:List UInt8):List UInt8:=i0A 3 b.length++b
def d0G (n:Nat):List UInt8:=i0A 0 n
def f0f (l:List (List UInt8)):List UInt8:=i0A 4 l.length++l.flatten
def d0a (id ctx:List UInt8)(has:Bool)(kind:List UInt8)(n:Nat):List UInt8:=f0f [b0P id,if has then b0P ctx else [0xf6],d0G 10,i0g kind,d0G n]
def j0S:List UInt8:= [75,101,121]
def ivT:List UInt8:= [73,86]
def k0f:List UInt8:= [69,110,99,114,121,112,116,48]
def p0M (kid pb:List UInt8):List UInt8:=f0f [i0g k0f,b0P [],b0P (f0f [d0G 1,f0f [d0G 10],b0P kid,b0P pb,b0P []])]
def nF (c id:List UInt8)(piv:Int)(i j q:Nat):UInt8:=
 ((c.getD q 0^^^ (if q=0 then u8 (id.length:Int)else 0))^^^ (if 8-id.length≤q∧q<8-id.length+i then id.getD (q-(8-id.length)) 0 else 0))^^^ (if 13-j≤q∧q<13 then u8 (piv/2^ (8*(12-q)))else 0)
theorem o0P {c id:List UInt8}{piv:Int}{i:Nat}(hl:id.length≤7)(hi:i<id.length)(q:Nat):
  (if q=8-id.length+i then nF c id piv i 0 (8-id.length+i)^^^id.getD i 0 else nF c id piv i 0 q)=nF c id piv (i+1) 0 q:=by
 have h13: ∀p:Nat,¬(13-0≤p∧p<13):=fun p=>by omega
 by_cases h:q=8-id.length+i
 ·subst h
  rw[if_pos rfl]
  unfold nF
  rw[if_neg (h13 _),if_neg (show ¬(8-id.length≤8-id.length+i∧8-id.length+i<8-id.length+i) by omega),if_pos (show 8-id.length≤8-id.length+i∧8-id.length+i<8-id.length+(i+1) by omega),
   show 8-id.length+i-(8-id.length)=i by omega]
  simp
 rw[if_neg h]
 unfold nF
 rw[if_neg (h13 _)]
 by_cases h2:8-id.length≤q∧q<8-id.length+i
 ·rw[if_pos h2,if_pos (show 8-id.length≤q∧q<8-id.length+(i+1) by omega)]
 rw[if_neg h2,if_neg (show ¬(8-id.length≤q∧q<8-id.length+(i+1)) by omega)]
theorem l0Z {c id:List UInt8}{piv:Int}{i j:Nat}(hj:j<5)(q:Nat):
  (if q=12-j then nF c id piv i j (12-j)^^^u8 (piv/2^ (8*j))else nF c id piv i j q)=nF c id piv i (j+1) q:=by
 by_cases h:q=12-j
 ·subst h
  rw[if_pos rfl]
  unfold nF
  rw[if_neg (show ¬(13-j≤12-j∧12-j<13) by omega),if_pos (show 13-(j+1)≤12-j∧12-j<13 by omega),show 12-(12-j)=j by omega]
  simp
 rw[if_neg h]
 unfold nF
 by_cases h2:13-j≤q∧q<13
 ·rw[if_pos h2,if_pos (show 13-(j+1)≤q∧q<13 by omega)]
 rw[if_neg h2,if_neg (show ¬(13-(j+1)≤q∧q<13) by omega)]
def h0H (c id:List UInt8)(piv:Int):List UInt8:=fnB 13 (nF c id piv id.length 5)
def a0V (c id:List UInt8)(piv:Int):List UInt8×Int:=
 if c.length≠13∨7<id.length then([],1)else if piv<0∨1099511627775<piv then([],8)else(h0H c id piv,0)
end Go.Proofs.YtojomcdjcpmnkaaGreat.By
namespace Go.Proofs.YtojomcdjcpmnkaaGreat.By
open Go.RowKit L A Dk
attribute [local irreducible] AW AQ AO
def Gen (b:Nat)(l:List Int)(Φ:AV→Prop):AV→List HE→Prop:=fun r H'=>Φ r∧ ∃k,k≤l.length∧H'= [e0E b l k]
def q0R (n:Int)(r:AV):Prop:= ∃z:Int,0≤z∧z<n∧r= .val (.int .i64 z)
def n0S (n:Nat)(r:AV):Prop:= ∃x:List UInt8,x.length≤n∧r=roB x
theorem a0N (b:Nat)(l:List Int)(k:Nat)(n:Int)(hl:l.length≤maxLen)(hk:k≤l.length)(hn1:0<n)(hn2:n≤4611686018427387904):
  Sp Tryz.prog 33 [ptr b,.val (.int .i64 n)] [e0E b l k] (Gen b l (q0R n)):=
 (n0o b l k n hl hk hn1 hn2).mono fun r H' ⟨h1,h2⟩=>⟨⟨_,(l0W l k hn1).1,(l0W l k hn1).2,h1⟩,_,n0P hk,h2⟩
theorem b0X (b:Nat)(l:List Int)(k:Nat)(n:Nat)(hl:l.length≤maxLen)(hk:k≤l.length)(hn:n≤1000000):
  Sp Tryz.prog 24 [ptr b,.val (.int .i64 (n:Int))] [e0E b l k] (Gen b l (n0S n)):=by
 refine yr Tryz.func24 _ Tryz.ntmps24 (fun w0 R0=> ?_)
 refine zB (zr ?_)
 refine zc (zE (zm (zB (zr ?_))))
 refine zc (zE (zm (zB (zB (zr ?_)))))
 refine zb ?_
 refine zb ?_
 refine zA ?_
 refine AO.callMG 0 rfl rfl Tryz.func33 rfl rfl rfl rfl rfl rfl (a0N _ l _ _ hl (by assumption) (by omega) (by omega)) ?_
 rintro _ _ ⟨⟨z,hz0,hz1,rfl⟩,kd,hkd,rfl⟩
 dsimp only[cA,cN,List.eraseIdx]
 refine zc (zE (zm (yT ?_)))
 obtain⟨c,rfl⟩: ∃c:Nat,z=(c:Int):=⟨z.toNat,by omega⟩
 refine AW.g ?_
 refine G.nilRow 5 1 ?_
 refine AW.u ?_
 refine AW.loopK [(0,_)] (fun nn E H=> ∃(c':Nat) (out:List UInt8) (V:Value) (kk:Nat),(out.length+c'≤n)∧(V.oneCell'=true)∧(kk≤l.length)∧c'=nn∧E= [(5,.val V),(6,.val (.int .i64 (c':Int)))]∧H= [.row V 5 1 out.length (a0a out),e0E b l kk]) _ (⟨c,[],.slice none 0 0,kd,by simp<;>omega,rfl,hkd,rfl,rfl,rfl⟩) (by repeat(first|exact a0f|refine a0h rfl ?_)) (by repeat(first|exact a0f|refine a0h rfl ?_)) (by repeat(first|exact a0p|refine a0m 0 rfl ?_)) ?_
 rintro nn E H ⟨c',out,V,kk,h1,hV,h3,rfl,rfl,rfl⟩
 dsimp only[cA,cN]
 refine zB (zB (zr ?_))
 refine zb ?_
 refine yw (zE (zm ?_))
 refine yk (fun h=> ?_) (fun h=> ?_)<;>(try simp only[wr]at h)
 ·obtain⟨j,rfl⟩: ∃j,c'=j+1:=⟨c'-1,by omega⟩
  refine yI (zm (zB (yT (zr ?_))))
  refine zb ?_
  refine zb ?_
  refine AO.callMG 1 rfl rfl Tryz.func33 rfl rfl rfl rfl rfl rfl (a0N _ l _ _ hl (by assumption) (by omega) (by omega)) ?_
  rintro _ _ ⟨⟨z,hz0,hz1,rfl⟩,kd,hkd,rfl⟩
  dsimp only[cA,cN,List.eraseIdx]
  refine yQ ?_
  refine zQ ?_
  intro B
  refine AO.g ?_
  refine z6 0 19 ?_
  refine xz 19 ?_
  refine AO.u ?_
  dsimp only[List.eraseIdx]
  refine zw 1 ?_
  intro V hV
  refine zc (zE (y5 (zm (zr ?_))))
  refine zb ?_
  refine yN ?_
  refine zc (zE ?_)
  rw[show((j+1:Nat):Int)-1=(j:Int) by omega]
  refine AQ.loopKN _ _ _ (by omega) (⟨j,out++[u8 z],V,kd,by simp;omega,hV,hkd,rfl,rfl,by rw[a0F,cH]<;>rfl⟩) (by repeat(first|exact a0f|refine a0h rfl ?_)) (by repeat(first|exact a0f|refine a0h rfl ?_)) (by repeat(first|exact a0p|refine a0m 0 rfl ?_|refine a0m 1 rfl ?_))
 refine xx ?_
 refine xp ?_
 refine xu ?_
 refine y2 (zm (zB (zr ?_)))
 refine zb ?_
 refine zc (zE (zm (yR ?_)))
 refine AQ.g ?_
 refine yG 0 [4] ?_
 refine AQ.u ?_
 dsimp only[List.map,List.eraseIdx,cA,cN]
 refine AQ.ret1 rfl rfl ⟨_,by repeat(first|exact List.Sublist.slnil|refine List.Sublist.cons_cons _ ?_),List.Perm.refl _⟩ (⟨⟨out,by omega,b0M rfl rfl⟩,_,h3,rfl⟩)
end Go.Proofs.YtojomcdjcpmnkaaGreat.By
namespace Go.Proofs.YtojomcdjcpmnkaaGreat.By
open Go.RowKit L A
attribute [local irreducible] AW AQ AO
def g0u:List UInt8→List UInt8→Int
 |x::a,y::b=>if x=y then g0u a b else if x.toNat<y.toNat then -1 else 1
 | [],[]=>0
 | [],_=> -1
 |_,[]=>1
theorem g0t: ∀{a b:List UInt8},g0u a b=0↔a=b
 | [],[]=>by simp[g0u]
 | [],_::_=>by simp[g0u]
 |_::_,[]=>by simp[g0u]
 | x::a,y::b=>by
  unfold g0u
  split
  ·rename_i h
   rw[g0t,h];simp
  rename_i h
  simp only[List.cons.injEq,h,false_and,iff_false]
  split<;>omega
theorem k0j {a b:List UInt8}{k:Nat}(h1:k<a.length)(h2:k<b.length):
  g0u (a.drop k) (b.drop k)=if bt a k=bt b k then g0u (a.drop (k+1)) (b.drop (k+1))else if(bt a k).toNat<(bt b k).toNat then -1 else 1:=by
 rw[f0K h1,f0K h2,g0u]
theorem l0z {a b:List UInt8}{k:Nat}(h1:k≤a.length)(h2:k≤b.length)(h:k<a.length→b.length≤k):g0u (a.drop k) (b.drop k)=if a.length<b.length then -1 else if b.length<a.length then 1 else 0:=by
 rcases Nat.lt_or_eq_of_le h1 with h3|h3
 ·have h4:b.length=k:=by have:=h h3;omega
  have e:b.drop k= []:=List.drop_of_length_le (by omega)
  rw[f0K h3,e,if_neg (by omega),if_pos (by omega)]
  simp[g0u]
 have e:a.drop k= []:=List.drop_of_length_le (by omega)
 rw[e]
 rcases Nat.lt_or_eq_of_le h2 with h5|h5
 ·rw[f0K h5,if_pos (by omega)];simp[g0u]
 have e:b.drop k= []:=List.drop_of_length_le (by omega)
 rw[e,if_neg (by omega),if_neg (by omega)];simp[g0u]
theorem i0G (a b:List UInt8):Sp Tryz.prog 79 [roB a,roB b] [] (Is (.val (.int .i64 (g0u a b)))):=by
 refine yr Tryz.func79 _ Tryz.ntmps79 (fun w0 R0=> ?_)
 refine AW.g ?_
 refine G.lenRo (t:=0) rfl (fun hm1=> ?_)
 refine AW.u ?_
 refine AW.g ?_
 refine G.lenRo (t:=1) rfl (fun hm2=> ?_)
 refine AW.u ?_
 unfold maxLen at hm1 hm2
 refine zB (zr ?_)
 refine zc (zE (zm (zB (zB (zr ?_)))))
 refine zc (zE (zm (yT ?_)))
 refine x3 [(0,_),(1,_)] (fun nn E H=> ∃(k:Nat),(k≤a.length)∧(k≤b.length)∧(g0u a b=g0u (a.drop k) (b.drop k))∧nn=a.length-k∧E= [(5,.val (.int .i64 (k:Int)))]∧H= []) _ (⟨0,by omega,by omega,rfl,rfl,rfl,rfl⟩) ?_
 rintro nn E H ⟨k,h1,h2,hc,rfl,rfl,rfl⟩
 dsimp only[cA,cN]
 refine zB (zB (zr ?_))
 refine zb ?_
 refine zb ?_
 refine zR ?_
 refine zN ?_
 refine zb ?_
 refine yl ?_
 refine yl ?_
 refine zX 12 ?_
 refine AO.opG rfl rfl rfl (fun hp=>wo 11 rfl (by exact hp) (wo 13 rfl (by exact hp) yj)) ?_
 refine zO (zE (zm ?_))
 refine yk (fun h=> ?_) (fun h=> ?_)<;>(try simp only[wr]at h)
 ·have h3:k<a.length:=by omega
  have h4:k<b.length:=by omega
  rw[k0j h3 h4]at hc
  refine yI (zm (zB (yT (zB ?_))))
  refine yv 9 ?_
  simp only[cT,cZ,cD,cO]
  refine zG ?_
  refine zG ?_
  refine xH ?_
  refine wm xT ?_
  refine zG ?_
  refine zG ?_
  refine xH ?_
  refine wm xT ?_
  refine wm xb ?_
  refine wh ?_
  simp only[a0l,cN,cA,cP]
  refine zE (zm ?_)
  refine yk (fun h5=> ?_) (fun h5=> ?_)<;>(try simp only[wr]at h5)
  ·rw[if_neg (fun e=>h5 (by rw[e]))]at hc
   refine zB (zB ?_)
   refine yv 9 ?_
   simp only[cT,cZ,cD,cO]
   refine zG ?_
   refine zG ?_
   refine xH ?_
   refine wm xT ?_
   refine zG ?_
   refine zG ?_
   refine xH ?_
   refine wm xT ?_
   refine wm yj ?_
   refine wh ?_
   simp only[a0l,cN,cA,cP]
   refine zE (zm ?_)
   refine yk (fun h6=> ?_) (fun h6=> ?_)<;>(try simp only[wr]at h6)
   ·rw[if_pos (by omega)]at hc
    refine zB (zr ?_)
    refine zc (zE (zm (yR (y0 ?_))))
    refine xN (y0 ?_)
    refine AQ.loopR ?_
    refine xN (y0 ?_)
    refine AQ.ret1 rfl rfl nS (⟨congrArg (fun z=>AV.val (.int .i64 z)) hc.symm,rfl⟩)
   rw[if_neg (by omega)]at hc
   refine yI (zm (zB (zr ?_)))
   refine zc (zE (zm (yR ?_)))
   refine xN (y0 ?_)
   refine AQ.loopR ?_
   refine xN (y0 ?_)
   refine AQ.ret1 rfl rfl nS (⟨congrArg (fun z=>AV.val (.int .i64 z)) hc.symm,rfl⟩)
  rw[if_pos (u8_eq.1 h5)]at hc
  refine yI (y5 (zm (zr ?_)))
  refine zb ?_
  refine zA ?_
  refine zc (zE ?_)
  refine xJ _ _ _ (by omega) (⟨k+1,by omega,by omega,hc,rfl,rfl,rfl⟩)
 rw[l0z h1 h2 (fun _=>by omega)]at hc
 refine xx ?_
 refine xp ?_
 refine xu ?_
 refine y2 (zm (zB (yT (zB (zr ?_)))))
 refine zb ?_
 refine zR ?_
 refine zb ?_
 refine zR ?_
 refine zN ?_
 refine zc (zE (zm ?_))
 refine yk (fun h5=> ?_) (fun h5=> ?_)<;>(try simp only[wr]at h5)
 ·rw[if_pos (by omega)]at hc
  refine zB (zr ?_)
  refine zc (zE (zm (yR ?_)))
  refine xN (y0 ?_)
  refine AQ.ret1 rfl rfl nS (⟨congrArg (fun z=>AV.val (.int .i64 z)) hc.symm,rfl⟩)
 rw[if_neg (by omega)]at hc
 refine zB (zr ?_)
 refine zb ?_
 refine zR ?_
 refine zb ?_
 refine zR ?_
 refine yw ?_
 refine zc (zE (zm ?_))
 refine yk (fun h6=> ?_) (fun h6=> ?_)<;>(try simp only[wr]at h6)
 ·rw[if_pos (by omega)]at hc
  refine zB (zr ?_)
  refine zc (zE (zm (yR ?_)))
  refine xN (y0 ?_)
  refine AQ.ret1 rfl rfl nS (⟨congrArg (fun z=>AV.val (.int .i64 z)) hc.symm,rfl⟩)
 rw[if_neg (by omega)]at hc
 refine yI (y5 (zm (zB (zr ?_))))
 refine zc (zE (zm (yR ?_)))
 refine AQ.ret1 rfl rfl nS (⟨congrArg (fun z=>AV.val (.int .i64 z)) hc.symm,rfl⟩)
theorem b0n (a b:List UInt8):Sp Tryz.prog 31 [roB a,roB b] [] (Is (.val (.bool (a==b)))):=by
 refine yr Tryz.func31 _ Tryz.ntmps31 (fun w0 R0=> ?_)
 refine zB (zr ?_)
 refine zc (zE (zm (zB (zr ?_))))
 refine zb ?_
 refine zb ?_
 refine wl (xl rfl Tryz.func79 rfl rfl rfl (i0G _ _)) ?_
 refine yh ?_
 refine zb ?_
 refine yl ?_
 refine zX 10 ?_
 refine yl ?_
 refine zX 12 ?_
 refine AO.opG rfl rfl rfl (fun hp=>wo 11 rfl (by exact hp) (wo 13 rfl (by exact hp) yp)) ?_
 refine zO ?_
 refine zc (zE (zm (yR ?_)))
 have e:((g0u a b==0)&&((a.length:Int)==(b.length:Int)))=(a==b):=by
  rw[Bool.eq_iff_iff]
  simp only[Bool.and_eq_true,beq_iff_eq,g0t]
  constructor
  ·exact fun h=>h.1
  rintro rfl;exact⟨rfl,rfl⟩
 refine AQ.ret1 rfl rfl nS (⟨congrArg (fun z=>AV.val (.bool z)) e,rfl⟩)
theorem a0K (l:List UInt8)(hl:l.length≤140737488355328):Sp Tryz.prog 69 [roB l] [] (Is (roB l)):=by
 refine yr Tryz.func69 _ Tryz.ntmps69 (fun w0 R0=> ?_)
 refine zB (zr ?_)
 refine zc (zE (zm (zB (zr ?_))))
 refine zb ?_
 refine yf ?_
 intro V hV
 refine zc (zE (zm (yR ?_)))
 refine AQ.g ?_
 refine yG 0 [2] ?_
 refine AQ.u ?_
 dsimp only[List.map,List.eraseIdx,cA,cN]
 refine AQ.ret1 rfl rfl nS (⟨b0M (by simp) (by simp),rfl⟩)
def i0S (n:Nat)(out:List UInt8):List UInt8:=if h:n=0 then out else i0S (n/256) (u8 (n:Int)::out)
termination_by n
decreasing_by omega
def b0O (n:Int):List UInt8:=if n<0∨1099511627775<n then []else i0S (n.toNat/256) [u8 n]
theorem a0Z (out:List UInt8):i0S 0 out=out:=by unfold i0S;simp
theorem a0P {n:Nat}(h:n≠0)(out:List UInt8):i0S n out=i0S (n/256) (u8 (n:Int)::out):=by rw[i0S,dif_neg h]
theorem h0W: ∀(k n:Nat) (out:List UInt8),n<256^k→(i0S n out).length≤out.length+k
 |0,n,out,h=>by
  obtain rfl:n=0:=by simpa using h
  rw[a0Z];simp
 |k+1,n,out,h=>by
  by_cases h0:n=0
  ·subst h0;rw[a0Z];simp
  rw[a0P h0]
  have:=h0W k (n/256) (u8 (n:Int)::out) (by rw[Nat.pow_succ]at h;omega)
  simp at this⊢;omega
theorem c0e (n:Int):(b0O n).length≤5:=by
 unfold b0O
 split
 ·simp
 have:=h0W 4 (n.toNat/256) [u8 n] (by omega)
 simpa using this
def j0B (n:Int)(s:Nat)(out:List UInt8):List UInt8:=if 0<out.length∨(u8 (n/256^s)≠0)∨s=0 then out++[u8 (n/256^s)]else out
def rGo (n:Int):Nat→List UInt8
 |0=> []
 |k+1=>j0B n (4-k) (rGo n k)
theorem d0U (x:Int):u8 x=0↔x%256=0:=by
 constructor
 ·intro h
  have:=c0c x
  rw[h]at this
  simpa using this.symm
 intro h;unfold u8;rw[h];rfl
theorem m0Y {n:Int}(h0:0≤n)(h1:n≤1099511627775):rGo n 5=b0O n:=by
 obtain⟨m,rfl⟩: ∃m:Nat,n=(m:Int):=⟨n.toNat,by omega⟩
 have nz: ∀x:Int,x%256≠0→ ¬u8 x=0:=fun x h e=>h ((d0U x).1 e)
 have yz: ∀x:Int,x%256=0→u8 x=0:=fun x h=>(d0U x).2 h
 have q:(m:Int)/256^0=(m:Int):=by simp
 have s1:((m/256:Nat):Int)=(m:Int)/256:=by omega
 have s2:((m/65536:Nat):Int)=(m:Int)/65536:=by omega
 have s3:((m/16777216:Nat):Int)=(m:Int)/16777216:=by omega
 have s4:((m/4294967296:Nat):Int)=(m:Int)/4294967296:=by omega
 unfold b0O
 rw[if_neg (by omega)]
 simp only[rGo,j0B,Nat.reduceSub,Int.reducePow,Int.toNat_natCast,q]
 by_cases a4:m/4294967296=0
 ·have e4:=yz ((m:Int)/4294967296) (by omega)
  by_cases a3:m/16777216=0
  ·have e3:=yz ((m:Int)/16777216) (by omega)
   by_cases a2:m/65536=0
   ·have e2:=yz ((m:Int)/65536) (by omega)
    by_cases a1:m/256=0
    ·have e1:=yz ((m:Int)/256) (by omega)
     rw[a1,a0Z]
     simp[e4,e3,e2,e1]
    have e1:=nz ((m:Int)/256) (by omega)
    rw[a0P a1,show m/256/256=0 by omega,a0Z,s1]
    simp[e4,e3,e2,e1]
   have e2:=nz ((m:Int)/65536) (by omega)
   rw[a0P (by omega),a0P (by omega),show m/256/256/256=0 by omega,a0Z,show m/256/256=m/65536 by omega,s1,s2]
   simp[e4,e3,e2]
  have e3:=nz ((m:Int)/16777216) (by omega)
  rw[a0P (by omega),a0P (by omega),a0P (by omega),show m/256/256/256/256=0 by omega,a0Z,show m/256/256/256=m/16777216 by omega,show m/256/256=m/65536 by omega,s1,s2,s3]
  simp[e4,e3]
 have e4:=nz ((m:Int)/4294967296) (by omega)
 rw[a0P (by omega),a0P (by omega),a0P (by omega),a0P (by omega),show m/256/256/256/256/256=0 by omega,a0Z,show m/256/256/256/256=m/4294967296 by omega,show m/256/256/256=m/16777216 by omega,show m/256/256=m/65536 by omega,s1,s2,s3,s4]
 simp[e4]
theorem j0C (n:Int): ∀k,(rGo n k).length≤k
 |0=>Nat.le_refl _
 |k+1=>by
  have:=j0C n k
  unfold rGo j0B
  split
  ·simp;omega
  omega
end Go.Proofs.YtojomcdjcpmnkaaGreat.By
namespace Go.Proofs.YtojomcdjcpmnkaaGreat.By
open Go.RowKit L A Dk
attribute [local irreducible] AW AQ AO
theorem h0U (n:Int):Sp Tryz.prog 112 [.val (.int .i64 n)] [] (Is (roB (b0O n))):=by
 refine yr Tryz.func112 _ Tryz.ntmps112 (fun w0 R0=> ?_)
 refine zB (zr ?_)
 refine zc (zE (zm (zB (zB (zr ?_)))))
 refine zb ?_
 refine zN ?_
 refine zb ?_
 refine yl ?_
 refine yb 7 ?_
 refine zF (zE (zm ?_))
 refine yk (fun h=> ?_) (fun h=> ?_)<;>(try simp only[wr]at h)
 ·have e:b0O n= []:=by unfold b0O;rw[if_pos (by omega)]
  rw[e]
  refine zB (zr ?_)
  refine zc (zE (zm (yR (y0 ?_))))
  refine AQ.g ?_
  refine G.nilRo 2 rfl ?_
  refine AQ.u ?_
  try dsimp only[List.map,List.eraseIdx,cA,cN]
  refine yd
 obtain⟨m,rfl⟩: ∃m:Nat,n=(m:Int):=⟨n.toNat,by omega⟩
 have e:b0O (m:Int)=i0S (m/256) [u8 (m:Int)]:=by unfold b0O;rw[if_neg (by omega)];simp
 rw[e]
 refine yI (zm (zB (zr ?_)))
 refine zb ?_
 refine yQ ?_
 refine zQ ?_
 intro B
 refine zc (zE (zm (zB (zB (zr ?_)))))
 refine zb ?_
 refine wl (O.shrK 8 256 rfl rfl rfl rfl (by rfl)) ?_
 refine zc (zE (zm (yT ?_)))
 rw[show(m:Int)/256=((m/256:Nat):Int) by omega]
 refine AW.g ?_
 refine G.closeRow (n:=1) (cap:=1) 0 rfl rfl rfl (Nat.le_refl _) (by(unfold maxLen;omega)) ?_
 refine AW.u ?_
 dsimp only[List.set]
 refine AW.loopK [] (fun nn E H=> ∃(j:Nat) (q:Nat) (out:List UInt8) (V:Value),(j<256^q)∧(q≤4)∧(out.length+q≤5)∧(V.oneCell'=true)∧(i0S (m/256) [u8 (m:Int)]=i0S j out)∧j=nn∧E= [(0,.val (.int .i64 (j:Int))),(3,.val V)]∧H= [.row V 5 1 out.length (a0a out)]) _ (⟨m/256,4,[u8 (m:Int)],_,by omega,by omega,by simp,rfl,rfl,rfl,rfl,rfl⟩) (by repeat(exact a0f)) (by repeat(first|exact a0f|refine a0h rfl ?_)) (by repeat(first|exact a0p|refine a0m 0 rfl ?_)) ?_
 rintro nn E H ⟨j,q,out,V,h1,h2,h4,hV,hb,rfl,rfl,rfl⟩
 dsimp only[cA,cN]
 refine zB (zB (zr ?_))
 refine zb ?_
 refine yw (zE (zm ?_))
 refine yk (fun h=> ?_) (fun h=> ?_)<;>(try simp only[wr]at h)
 ·obtain⟨q,rfl⟩: ∃p,q=p+1:=⟨q-1,by cases q with|zero=>simp at h1;omega|succ q=>rfl⟩
  have hj:j≠0:=by omega
  rw[a0P hj]at hb
  refine yI (zm (zB (yT (zr ?_))))
  refine zb ?_
  refine yQ ?_
  refine zQ ?_
  intro B
  refine AO.g ?_
  refine G.closeRow (b:=B) (n:=1) (cap:=1) 0 rfl rfl rfl (Nat.le_refl _) (by(unfold maxLen;omega)) ?_
  refine AO.u ?_
  dsimp only[List.set]
  refine zb ?_
  refine AO.append' (i:=0) rfl rfl rfl rfl (by rfl) (by rfl) rfl rfl rfl (by exact SrcA.row TyD.ax mM (by(simp;done))) (by(simp[AV.cells,AV.one, *];done)) (by(unfold maxLen;omega)) (by omega) (by(dsimp only[List.set,List.append,cA,cN,a0c,a0n,AV.cells,List.map,List.map_cons,List.map_nil,List.take,List.drop,Nat.zero_add,Nat.add_zero,Nat.reduceAdd,Nat.reduceMul,Nat.zero_mul,Value.cells,List.toList_toArray,a0o,List.replicate,List.flatten,cP];done)) (fun _=>by(dsimp only[List.set];done)) ?_
  intro V hV
  refine zc (zE (y5 (zm (zr ?_))))
  refine zb ?_
  refine wl (O.shrK 8 256 rfl rfl rfl rfl (by rfl)) ?_
  refine zc (zE ?_)
  rw[show(j:Int)/256=((j/256:Nat):Int) by omega]
  refine AQ.loopKN _ _ _ (Nat.div_lt_self (by omega) (by omega)) (⟨j/256,q,u8 (j:Int)::out,V,by rw[Nat.pow_succ]at h1;omega,by omega,by simp;omega,hV,hb,rfl,rfl,by simp only[cL,Nat.add_comm out.length 1];rfl⟩) (by repeat(exact a0f)) (by repeat(first|exact a0f|refine a0h rfl ?_)) (by repeat(first|exact a0p|refine a0m 0 rfl ?_))
 obtain rfl:j=0:=by omega
 rw[hb,a0Z]
 refine xx ?_
 refine xp ?_
 refine xu ?_
 refine y2 (zm (zB (zr ?_)))
 refine zb ?_
 refine zc (zE (zm (yR ?_)))
 refine AQ.g ?_
 refine z9 0 [2] ?_
 refine AQ.u ?_
 try dsimp only[List.map,List.eraseIdx,cA,cN]
 refine yd
theorem j0z (n:Int):Sp Tryz.prog 74 [.val (.int .i64 n)] [] (Is (roB (b0O n))):=by
 refine yr Tryz.func74 _ Tryz.ntmps74 (fun w0 R0=> ?_)
 refine zB (zr ?_)
 refine zc (zE (zm (zB (zB (zr ?_)))))
 refine zb ?_
 refine zN ?_
 refine zb ?_
 refine yl ?_
 refine yb 9 ?_
 refine zF (zE (zm ?_))
 refine yk (fun h=> ?_) (fun h=> ?_)<;>(try simp only[wr]at h)
 ·have e:b0O n= []:=by unfold b0O;rw[if_pos (by omega)]
  rw[e]
  refine zB (zr ?_)
  refine zc (zE (zm (yR (y0 ?_))))
  refine AQ.g ?_
  refine G.nilRo 2 rfl ?_
  refine AQ.u ?_
  try dsimp only[List.map,List.eraseIdx,cA,cN]
  refine yd
 obtain⟨m,rfl⟩: ∃m:Nat,n=(m:Int):=⟨n.toNat,by omega⟩
 refine yI (zm (zB (zr ?_)))
 refine zc (zE (zm (zB (zB (zr ?_)))))
 refine zc (zE (zm (yT ?_)))
 refine AW.g ?_
 refine G.nilRow 5 1 ?_
 refine AW.u ?_
 refine zh [(0,_)] (fun nn E H=> ∃(k:Nat) (V:Value),(k≤5)∧(V.oneCell'=true)∧nn=5-k∧E= [(3,.val V),(4,.val (.int .i64 (32-8*(k:Int))))]∧H= [.row V 5 1 (rGo (m:Int) k).length (a0a (rGo (m:Int) k))]) _ (⟨0,.slice none 0 0,by omega,rfl,rfl,rfl,rfl⟩) ?_
 rintro nn E H ⟨k,V,h1,hV,rfl,rfl,rfl⟩
 dsimp only[cA,cN]
 have hlen:=j0C (m:Int) k
 refine zB (zB (zr ?_))
 refine zb ?_
 refine xY (zE (zm ?_))
 refine yk (fun h=> ?_) (fun h=> ?_)<;>(try simp only[wr]at h)
 ·have hk:k≤4:=by omega
  refine yI (zm (zB (yT (zB (zr ?_)))))
  refine zb ?_
  refine zb ?_
  refine wl (O.shr rfl rfl rfl (by omega) rfl) ?_
  refine yQ ?_
  refine zc (zE (zm (zB (zr ?_))))
  refine zb ?_
  refine xG ?_
  refine yw ?_
  refine zb ?_
  refine yl ?_
  refine AO.opG rfl rfl rfl (fun hp=>wo 24 rfl (by exact hp) xb) ?_
  refine zF ?_
  refine zb ?_
  refine yl ?_
  refine yE 28 ?_
  refine zF (zE (zm ?_))
  have e1:Int.fdiv (m:Int) (2^min (Int.toNat (32-8*(k:Int))) IntKind.i64.bits)=(m:Int)/256^ (4-k):=by
   rcases(show k=0∨k=1∨k=2∨k=3∨k=4 by omega)with rfl|rfl|rfl|rfl|rfl<;>exact Int.fdiv_eq_ediv_of_nonneg _ (by decide)
  rw[e1]
  have e2:((u8 ((m:Int)/256^ (4-k))).toNat:Int)=0↔u8 ((m:Int)/256^ (4-k))=0:=by
   rw[show(0:Int)=((0:UInt8).toNat:Int)from rfl,u8_eq]
  refine yk (fun h2=> ?_) (fun h2=> ?_)<;>(try simp only[wr]at h2)
  ·have e:rGo (m:Int) (k+1)=rGo (m:Int) k++[u8 ((m:Int)/256^ (4-k))]:=by
    rw[rGo,j0B,if_pos]
    rcases h2 with(h2|h2)|h2
    ·exact .inl (by omega)
    ·exact .inr (.inl (fun e=>h2 (e2.2 e)))
    exact .inr (.inr (by omega))
   refine zr ?_
   refine zb ?_
   refine zb ?_
   refine zQ ?_
   intro B
   refine AO.g ?_
   refine z6 0 33 ?_
   refine xz 33 ?_
   refine AO.u ?_
   dsimp only[List.eraseIdx]
   refine AO.append' (i:=0) rfl rfl rfl rfl (by rfl) (by rfl) rfl rfl rfl (by exact SrcA.ro TyD.ax (by rfl) (lB rfl)) (by rfl) (by(unfold maxLen;omega)) (by omega) (by(dsimp only[List.set,List.append,cA,cN,a0c,a0n,AV.cells,List.map,List.map_cons,List.map_nil,List.take,List.drop,Nat.zero_add,Nat.add_zero,Nat.reduceAdd,Nat.reduceMul,Nat.zero_mul,Value.cells,List.toList_toArray,a0o,List.replicate,List.flatten,cP];done)) (fun _=>by(dsimp only[List.set];done)) ?_
   intro V hV
   refine zc (zE (y5 (zm (zr ?_))))
   refine zb ?_
   refine yN ?_
   refine zc (zE ?_)
   refine AQ.loopKN _ _ _ (by omega) (⟨k+1,V,by omega,hV,rfl,by rw[show 32-8*((k+1:Nat):Int)=32-8*(k:Int)-8 by omega],by rw[e,a0F,cH]<;>rfl⟩) (by repeat(first|exact a0f|refine a0h rfl ?_)) (by repeat(first|exact a0f|refine a0h rfl ?_)) (by repeat(first|exact a0p|refine a0m 0 rfl ?_))
  have e:rGo (m:Int) (k+1)=rGo (m:Int) k:=by
   obtain⟨⟨h3,h4⟩,h5⟩:=h2
   rw[rGo,j0B,if_neg]
   rintro(h6|h6|h6)
   ·omega
   ·exact h6 (e2.1 (by simpa using h4))
   omega
  refine yI (y5 (zm (zr ?_)))
  refine zb ?_
  refine yN ?_
  refine zc (zE ?_)
  refine zn _ _ _ (by omega) (⟨k+1,V,by omega,hV,rfl,by rw[show 32-8*((k+1:Nat):Int)=32-8*(k:Int)-8 by omega],by rw[e]⟩)
 obtain rfl:k=5:=by omega
 rw[m0Y (by omega) (by omega)]
 refine xx ?_
 refine xp ?_
 refine xu ?_
 refine y2 (zm (zB (zr ?_)))
 refine zb ?_
 refine zc (zE (zm (yR ?_)))
 refine AQ.g ?_
 refine z9 0 [2] ?_
 refine AQ.u ?_
 try dsimp only[List.map,List.eraseIdx,cA,cN]
 refine yd
end Go.Proofs.YtojomcdjcpmnkaaGreat.By
namespace Go.Proofs.YtojomcdjcpmnkaaGreat.By
open Go.RowKit L A
attribute [local irreducible] AW AQ AO
abbrev i0w (k n:Int)(b:List UInt8):List AV:= [.val (.int .i64 k),.val (.int .u64 n),roB b,.ro false 0 []]
theorem e0Z (k n:Int)(b:List UInt8):(It.mk k n b []).cells=i0w k n b:=by rw[It.cells,c0R];rfl
theorem d0M (k n:Int)(b:List UInt8)(l:List It):(It.mk k n b l).cells= [.val (.int .i64 k),.val (.int .u64 n),roB b,.ro false l.length (c0R l)]:=by rw[It.cells]
theorem j0T (l:List It)(x:It):c0R (l++[x])=c0R l++x.cells:=by rw[f0A,f0A,g0h]
abbrev f0g (x:It):Prop:=Sp Tryz.prog 168 [.agg x.cells] [] (Is (.agg x.cells))
theorem h0T {k n:Int}{b:List UInt8}{l:List It}(hb:b.length≤100000)(hm:l.length≤1000)(hS: ∀q,q<l.length→f0g (k0B l q)):f0g (.mk k n b l):=by
 unfold f0g
 rw[d0M]
 refine yr Tryz.func168 _ Tryz.ntmps168 (fun w0 R0=> ?_)
 refine zB (zr ?_)
 refine ya ?_
 intro B1
 refine zd ?_
 intro B2
 refine zE (zm (zB ?_))
 refine yv 9 ?_
 simp only[cT,cZ,cD,cO]
 refine yC ?_
 refine zY ?_
 refine yC ?_
 refine zY ?_
 refine yC ?_
 refine zY ?_
 refine wi ?_
 refine wm yi ?_
 refine xR ?_
 refine wh ?_
 simp only[a0l,cN,cA,cP]
 rintro _ _ ⟨B3,rfl,rfl⟩
 simp only[cA,cN]
 refine za 0 (zE (zm (zB (zr ?_))))
 refine zc (zE (zm (zB (zB (zr ?_)))))
 refine zq ?_
 refine zv ?_
 refine zR ?_
 refine zb (zE (zm (yT ?_)))
 refine AW.g ?_
 refine G.nilRow 147 4 ?_
 refine AW.u ?_
 refine zh [(2,_),(3,_),(16,_),(17,_)] (fun nn E H=> ∃(q:Nat) (V:Value),(q≤l.length)∧(V.oneCell'=true)∧nn=l.length-q∧E= [(4,.val V),(18,.val (.int .i64 (q:Int)))]∧H= [.row V 147 4 q (c0R (l.take q)),.blk B3 147 4 [.val (.int .i64 k),.val (.int .u64 n),roB b,.val (.slice none 0 0)],.blk B2 147 4 [.val (.int .i64 0),.val (.int .u64 0),.val (.slice none 0 0),.val (.slice none 0 0)],.blk B1 147 4 [.val (.int .i64 k),.val (.int .u64 n),roB b,.ro false l.length (c0R l)]]) _ (⟨0,_,by omega,rfl,rfl,rfl,by rw[cZ,c0R]⟩) ?_
 rintro nn E H ⟨q,V,hq,hV,rfl,rfl,rfl⟩
 dsimp only[cA,cN]
 have hil:(c0R (l.take q)).length=q*4:=by rw[l0n,List.length_take];omega
 refine zB (zr ?_)
 refine zN (zE (zm (zB ?_)))
 refine yk (fun hlt=> ?_) (fun hlt=> ?_)<;>(try simp only[wr]at hlt)
 ·have hql:q<l.length:=by omega
  obtain⟨kk,nn',bb,ll,hx⟩: ∃kk nn' bb ll,k0B l q= .mk kk nn' bb ll:=by cases h:k0B l q;exact⟨_,_,_,_,rfl⟩
  have hg:((c0R l).drop (Int.toNat (q:Int)*4)).take 4= [.val (.int .i64 kk),.val (.int .u64 nn'),roB bb,.ro false ll.length (c0R ll)]:=by
   rw[p0d hql (by omega),hx,It.cells]
  have hSk:=hS q hql
  rw[hx]at hSk
  unfold f0g at hSk
  rw[It.cells]at hSk
  have e1:=j0T (l.take q) (k0B l q)
  rw[←a0i itN hql,hx,It.cells]at e1
  refine yI (zm (zB (yT (zB (zr ?_)))))
  refine z8 ?_
  refine wl (O.loadRK rfl rfl (by exact hg) (by rfl)) ?_
  refine zd ?_
  intro B4
  refine za 0 (zE (zm (zr ?_)))
  refine zb ?_
  refine wl (O.loadK rfl rfl (by repeat(exact List.Mem.head _)) (by rfl) (by rfl)) ?_
  refine wl (xl rfl Tryz.func168 rfl rfl rfl hSk) ?_
  refine zQ ?_
  intro B5
  refine AO.g ?_
  refine z6 0 25 ?_
  refine xz 25 ?_
  refine AO.u ?_
  dsimp only[List.eraseIdx]
  refine zL 1 ?_
  intro V6 hV6
  refine zc (zE (y5 (zm (zr ?_))))
  refine zA ?_
  refine zb (zE ?_)
  rw[show c0R (l.take q)++_=_ from e1.symm]
  refine zH _ _ _ (by omega) (⟨q+1,_,by omega,‹_›,rfl,rfl,rfl⟩)
 obtain rfl:q=l.length:=by omega
 rw[List.take_length]
 refine AW.g ?_
 refine z9 0 [4] ?_
 refine AW.u ?_
 try dsimp only[List.map,List.eraseIdx,cA,cN]
 refine xx ?_
 refine xp ?_
 refine xu ?_
 refine y2 (zm (zB (zr ?_)))
 refine zb ?_
 refine zq ?_
 refine za 0 (zE (zm (zB (zr ?_))))
 refine zy ?_
 refine za 1 (zE (zm (yR ?_)))
 refine AQ.retCell rfl rfl mM (by rfl) rfl nS (⟨rfl,rfl⟩)
def p0I:Nat→It→Prop
 |0,.mk _ _ b l=>b.length≤100000∧l= []
 |d+1,.mk _ _ b l=>b.length≤100000∧l.length≤1000∧ ∀y∈l,p0I d y
theorem g0q: ∀(d:Nat) (x:It),p0I d x→f0g x
 |0,.mk k n b l,h=>by
  obtain⟨h1,rfl⟩:=h
  exact h0T h1 (by simp) (fun q hq=>absurd hq (by simp))
 |d+1,.mk k n b l,h=>h0T h.1 h.2.1 fun q hq=>g0q d _ (h.2.2 _ (b0u itN hq))
theorem a0Q {d:Nat}{k n:Int}{b:List UInt8}(h:b.length≤100000):p0I d (.mk k n b []):=by
 cases d with
 |zero=>exact⟨h,rfl⟩
 |succ d=>exact⟨h,by simp,fun y hy=>by cases hy⟩
theorem h0v (d:Nat)(l:List It)(hm:l.length≤1000)(hS: ∀y∈l,p0I d y):Sp Tryz.prog 123 [.ro false l.length (c0R l)] [] (Is (.agg (It.mk 4 0 [] l).cells)):=by
 have hcp:=g0q (d+1) (.mk 4 0 [] l) ⟨by simp,hm,hS⟩
 unfold f0g at hcp
 rw[d0M]at hcp⊢
 refine yr Tryz.func123 _ Tryz.ntmps123 (fun w0 R0=> ?_)
 refine zB (zr ?_)
 refine zd ?_
 intro B1
 refine zE (zm (zB (zr ?_)))
 refine zb ?_
 refine zT ?_
 refine wl (xP rfl Tryz.func168 rfl rfl rfl hcp) ?_
 refine za 0 (zE (zm (yR ?_)))
 refine AQ.retCell rfl rfl (by repeat(exact List.Mem.head _)) (by rfl) rfl nS (⟨rfl,rfl⟩)
theorem f0q (n:Int)(hn:0≤n∧n<1000):Sp Tryz.prog 124 [.val (.int .i64 n)] [] (Is (.agg (i0w 0 n []))):=by
 refine yr Tryz.func124 _ Tryz.ntmps124 (fun w0 R0=> ?_)
 refine zB (zr ?_)
 refine zd ?_
 intro B1
 refine zE (zm (zB (zB (zr ?_))))
 refine zb ?_
 refine wl (O.lss rfl rfl rfl (by exact g0x (by omega))) (zE (zm ?_))
 refine AW.condF rfl (yI (zm (zB (zr ?_))))
 refine zb ?_
 refine xv ?_
 refine zT ?_
 refine za 0 (zE (zm (yR ?_)))
 refine wg xC xr (⟨rfl,rfl⟩)
theorem g0N (b:List UInt8)(hb:b.length≤100000):Sp Tryz.prog 125 [roB b] [] (Is (.agg (i0w 2 0 b))):=by
 refine yr Tryz.func125 _ Tryz.ntmps125 (fun w0 R0=> ?_)
 refine zB (zr ?_)
 refine zd ?_
 intro B1
 refine zE (zm (zB (zr ?_)))
 refine zb ?_
 refine wl y8 ?_
 refine zT ?_
 refine za 0 (zE (zm (yR ?_)))
 refine wg xC xr (⟨rfl,rfl⟩)
theorem h0t:Sp Tryz.prog 126 [.val (.string ⟨#[75,101,121]⟩)] [] (Is (.agg (i0w 3 0 j0S))):=by
 refine yr Tryz.func126 _ Tryz.ntmps126 (fun w0 R0=> ?_)
 refine zB (zr ?_)
 refine zd ?_
 intro B1
 refine zE (zm (zB (zr ?_)))
 refine zb ?_
 refine wl (O.toBytes rfl rfl rfl (by(unfold maxLen;simp;done))) ?_
 refine zT ?_
 refine za 0 (zE (zm (yR ?_)))
 refine wg xC xr (⟨rfl,rfl⟩)
theorem k0Q:Sp Tryz.prog 126 [.val (.string ⟨#[73,86]⟩)] [] (Is (.agg (i0w 3 0 ivT))):=by
 refine yr Tryz.func126 _ Tryz.ntmps126 (fun w0 R0=> ?_)
 refine zB (zr ?_)
 refine zd ?_
 intro B1
 refine zE (zm (zB (zr ?_)))
 refine zb ?_
 refine wl (O.toBytes rfl rfl rfl (by(unfold maxLen;simp;done))) ?_
 refine zT ?_
 refine za 0 (zE (zm (yR ?_)))
 refine wg xC xr (⟨rfl,rfl⟩)
theorem a0Y {m n:Nat}(h:n<24):i0A m n= [UInt8.ofNat (32*m+n)]:=if_pos h
theorem c0U (n:Nat):u8 (n:Int)=UInt8.ofNat n:=by
 unfold u8
 exact UInt8.toNat_inj.1 (by simp only[UInt8.toNat_ofNat'];omega)
theorem n0A {k:Int}{m:Nat}{b:List UInt8}(hk:k=(m:Int))(hm:m=2∨m=3)(h:b.length<24):(It.mk k 0 b []).enc=i0A m b.length++b:=by
 subst hk
 rw[c0h,a0Y h,show hnI (m:Int) 0 b 0=(b.length:Int)from if_pos (by omega),show 32*(m:Int)+(b.length:Int)=((32*m+b.length:Nat):Int) by omega,c0U]
 rfl
theorem p0k {n:Nat}(h:n<24):(It.mk 0 (n:Int) [] []).enc=d0G n:=by
 rw[c0h,d0G,a0Y h,show hnI 0 (n:Int) [] 0=(n:Int)from rfl,show 32*0+(n:Int)=((32*0+n:Nat):Int) by omega,c0U]
theorem q0x {l:List It}(h:l.length<24):(It.mk 4 0 [] l).enc=f0f (l.map It.enc):=by
 have e: ∀l:List It,b0r l=(l.map It.enc).flatten:=fun l=>by
  induction l with
  |nil=>rw[b0r];rfl
  |cons x l ih=>rw[b0r,ih];rfl
 rw[h0d,f0f,List.length_map,a0Y h,e,show 32*4+(l.length:Int)=((32*4+l.length:Nat):Int) by omega,c0U]
 rfl
theorem l0w:(It.mk 7 22 [] []).enc= [0xf6]:=by rw[c0h];rfl
def d0x (id ctx:List UInt8)(has:Bool)(kind:List UInt8)(n:Nat):List It:= [.mk 2 0 id [],if has=true then .mk 2 0 ctx []else .mk 7 22 [] [],.mk 0 ((10:Nat):Int) [] [],.mk 3 0 kind [],.mk 0 (n:Int) [] []]
theorem l0o {id ctx:List UInt8}{has:Bool}{kind:List UInt8}{n:Nat}(h1:id.length<24)(h2:ctx.length<24)(h3:kind.length<24)(h4:n<24):(It.mk 4 0 [] (d0x id ctx has kind n)).enc=d0a id ctx has kind n:=by
 have e:(d0x id ctx has kind n).map It.enc= [b0P id,if has then b0P ctx else [0xf6],d0G 10,i0g kind,d0G n]:=by
  show [(It.mk 2 0 id []).enc,(if has=true then It.mk 2 0 ctx []else It.mk 7 22 [] []).enc,(It.mk 0 ((10:Nat):Int) [] []).enc,(It.mk 3 0 kind []).enc,(It.mk 0 (n:Int) [] []).enc]=_
  rw[n0A (k:=2) (m:=2) rfl (.inl rfl) h1,p0k (by omega),n0A (k:=3) (m:=3) rfl (.inr rfl) h3,p0k h4]
  cases has with
  |true=>rw[if_pos rfl,if_pos rfl,n0A (k:=2) (m:=2) rfl (.inl rfl) h2];rfl
  |false=>rw[if_neg (by simp),if_neg (by simp),l0w];rfl
 rw[q0x (by show 5<24;omega),e];rfl
theorem d0J {id ctx:List UInt8}{has:Bool}{kind:List UInt8}{n:Nat}(h1:id.length<24)(h2:ctx.length<24)(h3:kind.length<24)(h4:n<24):(d0a id ctx has kind n).length≤100:=by
 cases has<;>simp[d0a,f0f,b0P,d0G,i0g,a0Y,h1,h2,h3,h4]<;>omega
theorem f0r (id ctx:List UInt8)(has:Bool)(s:ByteArray)(kind:List UInt8)(n:Nat)(h1:id.length<24)(h2:ctx.length<24)(h3:kind.length<24)(h4:n<24)(htx:Sp Tryz.prog 126 [.val (.string s)] [] (Is (.agg (i0w 3 0 kind)))):
  Sp Tryz.prog 106 [roB id,roB ctx,.val (.bool has),.val (.string s),.val (.int .i64 (n:Int))] [] (Is (roB (d0a id ctx has kind n))):=by
 have hen:=l0o (id:=id) (ctx:=ctx) (has:=has) (kind:=kind) (n:=n) h1 h2 h3 h4
 have hll:=d0J (id:=id) (ctx:=ctx) (has:=has) (kind:=kind) (n:=n) h1 h2 h3 h4
 cases has with
 | true=>
  have hli:=h0v 0 (d0x id ctx true kind n) (by show 5≤1000;omega) (by
   intro y hy
   simp only[d0x,if_true,List.mem_cons,List.not_mem_nil,or_false]at hy
   rcases hy with rfl|rfl|rfl|rfl|rfl
   ·exact a0Q (by omega)
   ·exact a0Q (by omega)
   ·exact a0Q (by simp)
   ·exact a0Q (by omega)
   exact a0Q (by simp))
  have hra:=g0O 1 (.mk 4 0 [] (d0x id ctx true kind n)) (.inr ⟨rfl,rfl,rfl,by show 5<24;omega,by
   intro y hy
   simp only[d0x,if_true,List.mem_cons,List.not_mem_nil,or_false]at hy
   rcases hy with rfl|rfl|rfl|rfl|rfl
   ·exact⟨rfl,.inr ⟨.inl rfl,rfl,h1⟩⟩
   ·exact⟨rfl,.inr ⟨.inl rfl,rfl,h2⟩⟩
   ·exact⟨rfl,.inl ⟨.inl rfl,by omega,by omega,rfl⟩⟩
   ·exact⟨rfl,.inr ⟨.inr rfl,rfl,h3⟩⟩
   exact⟨rfl,.inl ⟨.inl rfl,by omega,by omega,rfl⟩⟩⟩) (by rw[hen];omega)
  unfold f0Q at hra
  rw[hen]at hra
  rw[d0M]at hli hra
  simp only[d0x,if_true,c0R,e0Z,cP,cA,cN,cL,cE,Nat.zero_add,Nat.reduceAdd]at hli hra
  refine yr Tryz.func106 _ Tryz.ntmps106 (fun w0 R0=> ?_)
  refine zB (zr ?_)
  refine zc (zE (zm (zB (zr ?_))))
  refine zT ?_
  refine zd ?_
  intro B1
  refine za 0 (zE (zm (zB (zB (zr ?_)))))
  refine zb (zE (zm ?_))
  refine AW.condT rfl (zr ?_)
  refine zb ?_
  refine wl (xl rfl Tryz.func125 rfl rfl rfl (g0N _ (by omega))) ?_
  refine za 0 (zE (zm (zB ?_)))
  refine yv 12 ?_
  simp only[cT,cZ,cD,cO]
  refine zG ?_
  refine wm (xl rfl Tryz.func125 rfl rfl rfl (g0N _ (by omega))) ?_
  refine xM ?_
  refine wm (xl rfl Tryz.func124 rfl rfl rfl (f0q _ ⟨by omega,by omega⟩)) ?_
  refine zG ?_
  refine wm (xl rfl Tryz.func126 rfl rfl rfl htx) ?_
  refine zG ?_
  refine wm (xl rfl Tryz.func124 rfl rfl rfl (f0q _ ⟨by omega,by omega⟩)) ?_
  refine wm x0 ?_
  refine wm (xl rfl Tryz.func123 rfl rfl rfl hli) ?_
  refine wm (xl rfl Tryz.func122 rfl rfl rfl hra) ?_
  refine we ?_
  refine wh ?_
  simp only[a0l,cN,cA,cP]
  refine zE (zm (yR ?_))
  refine yd
 | false=>
  have hli:=h0v 0 (d0x id ctx false kind n) (by show 5≤1000;omega) (by
   intro y hy
   simp only[d0x,if_neg (show ¬(false=true) by simp),List.mem_cons,List.not_mem_nil,or_false]at hy
   rcases hy with rfl|rfl|rfl|rfl|rfl
   ·exact a0Q (by omega)
   ·exact a0Q (by simp)
   ·exact a0Q (by simp)
   ·exact a0Q (by omega)
   exact a0Q (by simp))
  have hra:=g0O 1 (.mk 4 0 [] (d0x id ctx false kind n)) (.inr ⟨rfl,rfl,rfl,by show 5<24;omega,by
   intro y hy
   simp only[d0x,if_neg (show ¬(false=true) by simp),List.mem_cons,List.not_mem_nil,or_false]at hy
   rcases hy with rfl|rfl|rfl|rfl|rfl
   ·exact⟨rfl,.inr ⟨.inl rfl,rfl,h1⟩⟩
   ·exact⟨rfl,.inl ⟨.inr rfl,by omega,by omega,rfl⟩⟩
   ·exact⟨rfl,.inl ⟨.inl rfl,by omega,by omega,rfl⟩⟩
   ·exact⟨rfl,.inr ⟨.inr rfl,rfl,h3⟩⟩
   exact⟨rfl,.inl ⟨.inl rfl,by omega,by omega,rfl⟩⟩⟩) (by rw[hen];omega)
  unfold f0Q at hra
  rw[hen]at hra
  rw[d0M]at hli hra
  simp only[d0x,if_neg (show ¬(false=true) by simp),c0R,e0Z,cP,cA,cN,cL,cE,Nat.zero_add,Nat.reduceAdd]at hli hra
  refine yr Tryz.func106 _ Tryz.ntmps106 (fun w0 R0=> ?_)
  refine zB (zr ?_)
  refine zc (zE (zm (zB (zr ?_))))
  refine zT ?_
  refine zd ?_
  intro B1
  refine za 0 (zE (zm (zB (zB (zr ?_)))))
  refine zb (zE (zm ?_))
  refine AW.condF rfl (yI (zm (zB ?_)))
  refine yv 12 ?_
  simp only[cT,cZ,cD,cO]
  refine zG ?_
  refine wm (xl rfl Tryz.func125 rfl rfl rfl (g0N _ (by omega))) ?_
  refine xM ?_
  refine wm (xl rfl Tryz.func124 rfl rfl rfl (f0q _ ⟨by omega,by omega⟩)) ?_
  refine zG ?_
  refine wm (xl rfl Tryz.func126 rfl rfl rfl htx) ?_
  refine zG ?_
  refine wm (xl rfl Tryz.func124 rfl rfl rfl (f0q _ ⟨by omega,by omega⟩)) ?_
  refine wm x0 ?_
  refine wm (O.callC rfl Tryz.func123 rfl rfl rfl hli (by(repeat(first|exact CoeL.nil|refine CoeL.cons Coe.rfl ?_|refine CoeL.cons Coe.nil ?_|refine CoeL.cons (Coe.ro ?_) ?_));done)) ?_
  refine wm (xl rfl Tryz.func122 rfl rfl rfl hra) ?_
  refine we ?_
  refine wh ?_
  simp only[a0l,cN,cA,cP]
  refine zE (zm (yR ?_))
  refine yd
def l0H (kid pb:List UInt8):List UInt8:=f0f [d0G 1,f0f [d0G 10],b0P kid,b0P pb,b0P []]
theorem i0a {kid pb:List UInt8}(h1:kid.length≤7)(h2:pb.length≤5):(l0H kid pb).length<24:=by
 unfold l0H f0f b0P d0G
 rw[a0Y (show kid.length<24 by omega),a0Y (show pb.length<24 by omega)]
 simp[a0Y];omega
def i0T (kid:List UInt8)(piv:Int):List UInt8×Int:=if 7<kid.length then([],1)else if piv<0∨1099511627775<piv then([],8)else(p0M kid (b0O piv),0)
abbrev by8 (a:UInt8):AV:= .val (.int .u8 (a.toNat:Int))
theorem c0Q {p:UInt8→Prop}(h: ∀n:Nat,n<256→p (UInt8.ofNat n))(a:UInt8):p a:=by
 have:=h a.toNat a.toNat_lt
 rwa [UInt8.ofNat_toNat]at this
def dbl (a:UInt8):UInt8:=if a&&&128=0 then a<<<1 else(a<<<1)^^^27
theorem q0B (a:UInt8):Go.bits .xor .u8 (IntKind.u8.wrap ((a.toNat:Int)*2)) 27=(((a<<<1)^^^27).toNat:Int):=c0Q (p:=fun a=>Go.bits .xor .u8 (IntKind.u8.wrap ((a.toNat:Int)*2)) 27=(((a<<<1)^^^27).toNat:Int)) (by decide +kernel) a
theorem q0C (a:UInt8):IntKind.u8.wrap ((a.toNat:Int)*2)=((a<<<1).toNat:Int):=c0Q (p:=fun a=>IntKind.u8.wrap ((a.toNat:Int)*2)=((a<<<1).toNat:Int)) (by decide +kernel) a
theorem q0D (a:UInt8):Go.bits .and .u8 (a.toNat:Int) 128=((a&&&128).toNat:Int):=c0Q (p:=fun a=>Go.bits .and .u8 (a.toNat:Int) 128=((a&&&128).toNat:Int)) (by decide +kernel) a
theorem s0l (a:UInt8):Go.bits .and .u8 (a.toNat:Int) 1=((a&&&1).toNat:Int):=c0Q (p:=fun a=>Go.bits .and .u8 (a.toNat:Int) 1=((a&&&1).toNat:Int)) (by decide +kernel) a
theorem h0r {a:UInt8}:(a.toNat:Int)=0↔a=0:=⟨fun h=>UInt8.toNat_inj.1 (by simpa using h),fun h=>by subst h;rfl⟩
theorem l0O {a:UInt8}:(a.toNat:Int)=1↔a=1:=⟨fun h=>UInt8.toNat_inj.1 (by simp;omega),fun h=>by subst h;rfl⟩
theorem h0R (a:UInt8):Sp Tryz.prog 195 [by8 a] [] (Is (by8 (dbl a))):=by
 refine yr Tryz.func195 _ Tryz.ntmps195 (fun w0 R0=> ?_)
 refine zB (zr ?_)
 refine zc (zE (zm (zB (zB (zr ?_)))))
 refine zb ?_
 refine wl (O.and_ rfl rfl rfl (q0D a)) ?_
 refine yZ (zE (zm ?_))
 refine yk (fun h=> ?_) (fun h=> ?_)<;>(try simp only[wr]at h)
 ·rw[h0r]at h
  refine zB (zr ?_)
  refine zb ?_
  refine wl (O.shlK 1 2 rfl rfl rfl rfl (by rfl) (by rfl)) ?_
  refine wl (O.xor_ rfl rfl rfl (q0B a)) ?_
  refine zc (zE (zm (yR (y0 ?_))))
  refine AQ.ret1 rfl rfl nS (⟨by rw[dbl,if_neg h],rfl⟩)
 rw[h0r]at h
 refine yI (zm (zB (zr ?_)))
 refine zb ?_
 refine wl (O.shlK 1 2 rfl rfl rfl rfl (by rfl) (by rfl)) ?_
 refine zc (zE (zm (yR ?_)))
 refine AQ.ret1 rfl rfl nS (⟨by rw[dbl,if_pos h,q0C],rfl⟩)
def p0J (a:UInt8)(k:Nat):UInt8:=u8 (Go.bits .or .u8 (IntKind.u8.wrap ((a.toNat:Int)*2^min ((k:Int)%8).toNat IntKind.u8.bits)) (((a.toNat:Int)).fdiv (2^min (8-(k:Int)%8).toNat IntKind.u8.bits)))
theorem m0N (a:UInt8){k:Nat}(hk:k<8):Go.bits .or .u8 (IntKind.u8.wrap ((a.toNat:Int)*2^min ((k:Int)%8).toNat IntKind.u8.bits)) (((a.toNat:Int)).fdiv (2^min (8-(k:Int)%8).toNat IntKind.u8.bits))=((p0J a k).toNat:Int):=
 c0Q (p:=fun a=> ∀k:Nat,k<8→Go.bits .or .u8 (IntKind.u8.wrap ((a.toNat:Int)*2^min ((k:Int)%8).toNat IntKind.u8.bits)) (((a.toNat:Int)).fdiv (2^min (8-(k:Int)%8).toNat IntKind.u8.bits))=((p0J a k).toNat:Int)) (by decide +kernel) a k hk
theorem m0O (a:UInt8)(k:Nat)(hk:k<8):Sp Tryz.prog 196 [by8 a,.val (.int .i64 (k:Int))] [] (Is (by8 (p0J a k))):=by
 refine yr Tryz.func196 _ Tryz.ntmps196 (fun w0 R0=> ?_)
 refine zB (zr ?_)
 refine zc (zE (zm (zB (zr ?_))))
 refine zb ?_
 refine xv ?_
 refine wl (O.and_ rfl rfl rfl (m0r 3 (by decide) (by decide) (m:=8) (by decide) (by omega))) ?_
 refine zc (zE (zm (zB (zr ?_))))
 refine zb ?_
 refine zb ?_
 refine wl (O.shl rfl rfl rfl (by omega) rfl) ?_
 refine zb ?_
 refine zb ?_
 refine wl (O.sub rfl rfl rfl (by exact l0L (by omega))) ?_
 refine wl (O.shr rfl rfl rfl (by omega) rfl) ?_
 refine wl (O.or_ rfl rfl rfl rfl) ?_
 refine zc (zE (zm (yR ?_)))
 refine AQ.ret1 rfl rfl nS (⟨by rw[m0N a hk],rfl⟩)
def g0P:Nat→UInt8→UInt8→UInt8→UInt8
 |0,_,_,p=>p
 |n+1,a,b,p=>g0P n (dbl a) (b>>>1) (if b&&&1=1 then p^^^a else p)
def p0K (a b:UInt8):UInt8:=g0P 8 a b 0
theorem e0P: ∀n a p,g0P n a 0 p=p
 |0,_,_=>rfl
 |n+1,a,p=>by
  show g0P n (dbl a) ((0:UInt8)>>>1) (if(0:UInt8)&&&1=1 then p^^^a else p)=p
  rw[show(0:UInt8)>>>1=0 from rfl,if_neg (by decide)]
  exact e0P n _ p
theorem r0u (b:UInt8):((b>>>1).toNat:Int)=(b.toNat:Int)/2:=c0Q (p:=fun b=>((b>>>1).toNat:Int)=(b.toNat:Int)/2) (by decide +kernel) b
theorem i0q (a b:UInt8):Sp Tryz.prog 212 [by8 a,by8 b] [] (Is (by8 (p0K a b))):=by
 refine yr Tryz.func212 _ Tryz.ntmps212 (fun w0 R0=> ?_)
 refine zB (zr ?_)
 refine zc (zE (zm (zB (zr ?_))))
 refine zc (zE (zm (zB (yT ?_))))
 refine AW.loopK [] (fun nn E H=> ∃(x:UInt8) (y:UInt8) (p:UInt8) (m:Nat),(g0P m x y p=p0K a b)∧(y.toNat<2^m)∧nn=y.toNat∧E= [(0,by8 x),(1,by8 y),(5,by8 p)]∧H= []) _ (⟨a,b,0,8,rfl,b.toNat_lt,rfl,rfl,rfl⟩) (by repeat(exact a0f)) (by repeat(first|exact a0f|refine a0h rfl ?_)) (by repeat(exact a0p)) ?_
 rintro nn E H ⟨x,y,p,m,hp,hm,rfl,rfl,rfl⟩
 dsimp only[cA,cN]
 refine zB (zB (zr ?_))
 refine zb ?_
 refine yZ (zE (zm ?_))
 refine yk (fun h=> ?_) (fun h=> ?_)<;>(try simp only[wr]at h)
 ·rw[h0r]at h
  obtain⟨m,rfl⟩: ∃m',m=m'+1:=by
   cases m with
   |zero=>exact absurd (UInt8.toNat_inj.1 (by simpa using hm)) h
   |succ m=>exact⟨m,rfl⟩
  have hpos:0<y.toNat:=by
   rcases Nat.eq_zero_or_pos y.toNat with h0|h0
   ·exact absurd (UInt8.toNat_inj.1 h0) h
   exact h0
  have hsh:=r0u y
  have hm2:(y>>>1).toNat<2^m:=by rw[Nat.pow_succ]at hm;omega
  refine yI (zm (zB (yT (zB (zB (zr ?_))))))
  refine zb ?_
  refine wl (O.and_ rfl rfl rfl (s0l _)) ?_
  refine yh (zE (zm ?_))
  refine yk (fun h1=> ?_) (fun h1=> ?_)<;>(try simp only[wr]at h1)
  ·rw[l0O]at h1
   refine zr ?_
   refine zb ?_
   refine zb ?_
   refine wl (O.xor_ rfl rfl rfl c0l) ?_
   refine zc (zE (zm (zr ?_)))
   refine zb ?_
   refine wl (xl rfl Tryz.func195 rfl rfl rfl (h0R _)) ?_
   refine zc (zE (y5 (zm (zr ?_))))
   refine zb ?_
   refine wl (O.shrK 1 2 rfl rfl rfl rfl (by rfl)) ?_
   refine zc (zE ?_)
   rw[←hsh]
   refine AQ.loopKN _ _ _ (by omega) (⟨dbl x,y>>>1,p^^^x,m,by rw[←hp,g0P,if_pos h1],hm2,rfl,rfl,rfl⟩) (by repeat(exact a0f)) (by repeat(first|exact a0f|refine a0h rfl ?_)) (by repeat(exact a0p))
  rw[l0O]at h1
  refine yI (zm (zr ?_))
  refine zb ?_
  refine wl (xl rfl Tryz.func195 rfl rfl rfl (h0R _)) ?_
  refine zc (zE (y5 (zm (zr ?_))))
  refine zb ?_
  refine wl (O.shrK 1 2 rfl rfl rfl rfl (by rfl)) ?_
  refine zc (zE ?_)
  rw[←hsh]
  refine AQ.loopKN _ _ _ (by omega) (⟨dbl x,y>>>1,p,m,by rw[←hp,g0P,if_neg h1],hm2,rfl,rfl,rfl⟩) (by repeat(exact a0f)) (by repeat(first|exact a0f|refine a0h rfl ?_)) (by repeat(exact a0p))
 rw[h0r]at h
 subst h
 rw[e0P]at hp
 subst hp
 refine xx ?_
 refine xp ?_
 refine xu ?_
 refine y2 (zm (zB (zr ?_)))
 refine zb ?_
 refine zc (zE (zm (yR ?_)))
 refine yd
end Go.Proofs.YtojomcdjcpmnkaaGreat.By
namespace Go.Proofs.YtojomcdjcpmnkaaGreat.By
open Go.RowKit L A
def k256:List UInt32:= [0x428a2f98,0x71374491,0xb5c0fbcf,0xe9b5dba5,0x3956c25b,0x59f111f1,0x923f82a4,0xab1c5ed5,0xd807aa98,0x12835b01,0x243185be,0x550c7dc3,0x72be5d74,0x80deb1fe,0x9bdc06a7,0xc19bf174,0xe49b69c1,0xefbe4786,0x0fc19dc6,0x240ca1cc,0x2de92c6f,0x4a7484aa,0x5cb0a9dc,0x76f988da,0x983e5152,0xa831c66d,0xb00327c8,0xbf597fc7,0xc6e00bf3,0xd5a79147,0x06ca6351,0x14292967,0x27b70a85,0x2e1b2138,0x4d2c6dfc,0x53380d13,0x650a7354,0x766a0abb,0x81c2c92e,0x92722c85,0xa2bfe8a1,0xa81a664b,0xc24b8b70,0xc76c51a3,0xd192e819,0xd6990624,0xf40e3585,0x106aa070,0x19a4c116,0x1e376c08,0x2748774c,0x34b0bcb5,0x391c0cb3,0x4ed8aa4a,0x5b9cca4f,0x682e6ff3,0x748f82ee,0x78a5636f,0x84c87814,0x8cc70208,0x90befffa,0xa4506ceb,0xbef9a3f7,0xc67178f2]
structure H8 where
 a:UInt32
 b:UInt32
 c:UInt32
 d:UInt32
 e:UInt32
 f:UInt32
 g:UInt32
 h:UInt32
 deriving DecidableEq
def l0s:H8:=⟨0x6a09e667,0xbb67ae85,0x3c6ef372,0xa54ff53a,0x510e527f,0x9b05688c,0x1f83d9ab,0x5be0cd19⟩
def rr (x n:UInt32):UInt32:=(x>>>n)|||(x<<<(32-n))
def i0e (b:List UInt8)(t:Nat):UInt32:=((b.getD (4*t) 0).toUInt32<<<24)|||((b.getD (4*t+1) 0).toUInt32<<<16)|||((b.getD (4*t+2) 0).toUInt32<<<8)|||(b.getD (4*t+3) 0).toUInt32
def i0r (w:List UInt32)(t:Nat):UInt32:=
 let x:=w.getD (t-15) 0
 let y:=w.getD (t-2) 0
 (rr y 17^^^rr y 19^^^ (y>>>10))+w.getD (t-7) 0+(rr x 7^^^rr x 18^^^ (x>>>3))+w.getD (t-16) 0
def wTo (b:List UInt8):Nat→List UInt32
 |0=> []
 |t+1=>let w:=wTo b t;w++[if t<16 then i0e b t else i0r w t]
def rnd (k w:UInt32)(s:H8):H8:=
 let t1:=s.h+(rr s.e 6^^^rr s.e 11^^^rr s.e 25)+((s.e&&&s.f)^^^ (~~~s.e&&&s.g))+k+w
 let t2:=(rr s.a 2^^^rr s.a 13^^^rr s.a 22)+((s.a&&&s.b)^^^ (s.a&&&s.c)^^^ (s.b&&&s.c))
 ⟨t1+t2,s.a,s.b,s.c,s.d+t1,s.e,s.f,s.g⟩
def m0Q (w:List UInt32)(s:H8):Nat→H8
 |0=>s
 |t+1=>rnd (k256.getD t 0) (w.getD t 0) (m0Q w s t)
def q0L (x y:H8):H8:=⟨x.a+y.a,x.b+y.b,x.c+y.c,x.d+y.d,x.e+y.e,x.f+y.f,x.g+y.g,x.h+y.h⟩
def h0V (h:H8)(b:List UInt8):H8:=q0L h (m0Q (wTo b 64) h 64)
def g0b (n:Nat):Nat:=(119-n%64)%64
def o0U (n:Nat):List UInt8:= [56,48,40,32,24,16,8,0].map fun s=>UInt8.ofNat (n*8/2^s)
def l0a (b:List UInt8):List UInt8:=b++[128]++List.replicate (g0b b.length) 0++o0U b.length
def b0Y (p:List UInt8):Nat→H8
 |0=>l0s
 |k+1=>h0V (b0Y p k) ((p.drop (64*k)).take 64)
def w4 (x:UInt32):List UInt8:= [(x>>>24).toUInt8,(x>>>16).toUInt8,(x>>>8).toUInt8,x.toUInt8]
def q0l (h:H8):List UInt8:=w4 h.a++w4 h.b++w4 h.c++w4 h.d++w4 h.e++w4 h.f++w4 h.g++w4 h.h
def sha (b:List UInt8):List UInt8:=q0l (b0Y (l0a b) ((l0a b).length/64))
theorem f0n (b:List UInt8):(sha b).length=32:=rfl
theorem k0Z (b:List UInt8):(l0a b).length%64=0:=by
 simp only[l0a,cH,List.length_replicate,List.length_singleton,show(o0U b.length).length=8 from rfl,g0b]
 omega
def n0w (k:List UInt8):List UInt8:=let x:=if 64<k.length then sha k else k;x++List.replicate (64-x.length) 0
def i0z (k b:List UInt8):List UInt8:=sha ((n0w k).map (· ^^^92)++sha ((n0w k).map (· ^^^54)++b))
theorem l0q (k b:List UInt8):(i0z k b).length=32:=rfl
def h0c (prk info:List UInt8):Nat→List UInt8
 |0=> []
 |k+1=>i0z prk (h0c prk info k++info++[UInt8.ofNat (k+1)])
def b0B (prk info:List UInt8)(k:Nat):List UInt8:=(List.range k).flatMap fun i=>h0c prk info (i+1)
def c0u (prk info:List UInt8)(n:Nat):List UInt8:=(b0B prk info ((n+31)/32)).take n
def h0O:List UInt8:= [1,2,3,4,5,6,7,8,9,10,11,12,13,14,15,16]
def m0h:List UInt8:= [0x9e,0x7c,0xa9,0x22,0x23,0x78,0x63,0x40]
def k0a:List UInt8:= [0xbf,0x4f,0x72,0xde,0x4e,0xed,0x44,0xa4,0x95,0x13,0x90,0xe7,0x12,0x78,0x49,0xde,0x97,0xd6,0x17,0xb1,0x94,0x0f,0x1a,0xb6,0xc1,0x82,0xb8,0xa1,0x47,0xdb,0x8d,0xc4]
theorem p0i:i0z m0h h0O=k0a:=by decide +kernel
theorem p0j:c0u k0a [0x85,0x40,0xf6,0x0a,0x63,0x4b,0x65,0x79,0x10] 16= [0xf0,0x91,0x0e,0xd7,0x29,0x5e,0x6a,0xd4,0xb5,0x4f,0xc7,0x93,0x15,0x43,0x02,0xff]:=by decide +kernel
theorem n0z:c0u k0a [0x85,0x41,0x01,0xf6,0x0a,0x63,0x4b,0x65,0x79,0x10] 16= [0xff,0xb1,0x4e,0x09,0x3c,0x94,0xc9,0xca,0xc9,0x47,0x16,0x48,0xb4,0xf9,0x87,0x10]:=by decide +kernel
theorem q0w:c0u k0a [0x85,0x40,0xf6,0x0a,0x62,0x49,0x56,0x0d] 13= [0x46,0x22,0xd4,0xdd,0x6d,0x94,0x41,0x68,0xee,0xfb,0x54,0x98,0x7c]:=by decide +kernel
end Go.Proofs.YtojomcdjcpmnkaaGreat.By
namespace Go.Proofs.YtojomcdjcpmnkaaGreat.A
open Go.RowKit L
theorem c0b (x:Int):IntKind.u32.wrap x=x%4294967296:=by
 show(if false=true∧x% (2^32)≥2^ (32-1)then x% (2^32)-2^32 else x% (2^32))=_
 rw[if_neg (by simp)];rfl
theorem d0P (n:Int)(h0:0≤n)(h1:n<2^32):IntKind.u32.wrap n=n:=by rw[c0b];omega
theorem e0w {a b:UInt32}:IntKind.u32.wrap ((a.toNat:Int)+(b.toNat:Int))=((a+b).toNat:Int):=by
 rw[c0b,UInt32.toNat_add];omega
theorem o0e {a b:UInt32}:Go.bits .xor .u32 (a.toNat:Int) (b.toNat:Int)=((a^^^b).toNat:Int):=by
 have e:(BitVec.ofInt 32 (a.toNat:Int)^^^BitVec.ofInt 32 (b.toNat:Int)).toNat=(a^^^b).toNat:=by
  rw[BitVec.toNat_xor,BitVec.ofInt_natCast,BitVec.ofInt_natCast,BitVec.toNat_ofNat,BitVec.toNat_ofNat,Nat.mod_eq_of_lt a.toNat_lt,Nat.mod_eq_of_lt b.toNat_lt,UInt32.toNat_xor]
 show IntKind.u32.wrap ((BitVec.ofInt 32 (a.toNat:Int)^^^BitVec.ofInt 32 (b.toNat:Int)).toNat:Int)=_
 rw[e]
 have:=(a^^^b).toNat_lt
 exact d0P _ (by omega) (by omega)
theorem k0s {a b:UInt32}:Go.bits .and .u32 (a.toNat:Int) (b.toNat:Int)=((a&&&b).toNat:Int):=by
 have e:(BitVec.ofInt 32 (a.toNat:Int)&&&BitVec.ofInt 32 (b.toNat:Int)).toNat=(a&&&b).toNat:=by
  rw[BitVec.toNat_and,BitVec.ofInt_natCast,BitVec.ofInt_natCast,BitVec.toNat_ofNat,BitVec.toNat_ofNat,Nat.mod_eq_of_lt a.toNat_lt,Nat.mod_eq_of_lt b.toNat_lt,UInt32.toNat_and]
 show IntKind.u32.wrap ((BitVec.ofInt 32 (a.toNat:Int)&&&BitVec.ofInt 32 (b.toNat:Int)).toNat:Int)=_
 rw[e]
 have:=(a&&&b).toNat_lt
 exact d0P _ (by omega) (by omega)
theorem p0L {a b:UInt32}:Go.bits .or .u32 (a.toNat:Int) (b.toNat:Int)=((a|||b).toNat:Int):=by
 have e:(BitVec.ofInt 32 (a.toNat:Int)|||BitVec.ofInt 32 (b.toNat:Int)).toNat=(a|||b).toNat:=by
  rw[BitVec.toNat_or,BitVec.ofInt_natCast,BitVec.ofInt_natCast,BitVec.toNat_ofNat,BitVec.toNat_ofNat,Nat.mod_eq_of_lt a.toNat_lt,Nat.mod_eq_of_lt b.toNat_lt,UInt32.toNat_or]
 show IntKind.u32.wrap ((BitVec.ofInt 32 (a.toNat:Int)|||BitVec.ofInt 32 (b.toNat:Int)).toNat:Int)=_
 rw[e]
 have:=(a|||b).toNat_lt
 exact d0P _ (by omega) (by omega)
theorem p0Z {a:UInt32}{n:Nat}(hn:n<32):((a.toNat:Int)).fdiv (2^ (min ((n:Int)).toNat IntKind.u32.bits))=((a>>>UInt32.ofNat n).toNat:Int):=by
 rw[Int.toNat_natCast,show IntKind.u32.bits=32 from rfl,Nat.min_eq_left (by omega),UInt32.toNat_shiftRight,UInt32.toNat_ofNat',Nat.shiftRight_eq_div_pow,
  show n%2^32%32=n by rw[Nat.mod_eq_of_lt (show n<2^32 by omega)];omega,Int.fdiv_eq_ediv_of_nonneg _ (Int.le_of_lt (Int.pow_pos (by decide)))]
 simp
theorem q0a {a:UInt32}{n:Nat}(hn:n<32):IntKind.u32.wrap ((a.toNat:Int)*2^ (min ((n:Int)).toNat IntKind.u32.bits))=((a<<<UInt32.ofNat n).toNat:Int):=by
 rw[Int.toNat_natCast,show IntKind.u32.bits=32 from rfl,Nat.min_eq_left (by omega),UInt32.toNat_shiftLeft,UInt32.toNat_ofNat',Nat.shiftLeft_eq,
  show n%2^32%32=n by rw[Nat.mod_eq_of_lt (show n<2^32 by omega)];omega,c0b]
 simp
theorem c0K {b:UInt8}:IntKind.u32.wrap (b.toNat:Int)=(b.toUInt32.toNat:Int):=by
 have:=b.toNat_lt
 rw[c0b,UInt8.toNat_toUInt32];omega
theorem c0L {a:UInt32}:IntKind.u8.wrap (a.toNat:Int)=(a.toUInt8.toNat:Int):=by
 rw[d0o,UInt32.toNat_toUInt8]
 simp only[u8,UInt8.toNat_ofNat']
 omega
section
variable {P:Program}{E:Env}{H:List HE}{N:Nat}{o:Oper}
theorem com32 {a:UInt32}:Go.bits .xor .u32 IntKind.u32.max (a.toNat:Int)=((~~~a).toNat:Int):=by
 have h:IntKind.u32.max=((4294967295:UInt32).toNat:Int):=by decide
 rw[h,o0e]
 congr 2
theorem O.com32 {T:Nat}{x:Operand}{a:UInt32}(ho:o.op= .unOp .xor T x)(hx:ev E x=some (.val (.int .u32 (a.toNat:Int)))):OpW P N o E H (Is (.val (.int .u32 ((~~~a).toNat:Int)))):= .of_run fun R a' W h1 h2 ha=>
 ⟨.int .u32 ((~~~a).toNat:Int),by
  have e:(Op.intBits .xor .u32 IntKind.u32.max (a.toNat:Int)).run P W= .ok (.int .u32 ((~~~a).toNat:Int)) W:=by
   rw[←A.com32];rfl
  simp[execOp,ho,(ha.ev hx).val_inv,Op.unary,show IntKind.u32.signed=false from rfl,e],.val _⟩
end
abbrev e32 (a:UInt32):Value:= .int .u32 (a.toNat:Int)
abbrev e64 (a:UInt64):Value:= .int .u64 (a.toNat:Int)
section
variable {α:Type}{e:α→Value}
def arK (e:α→Value)(n:Nat)(f:Nat→α):List AV:=(List.range n).map fun q=>AV.val (e (f q))
theorem h0m (n:Nat)(f:Nat→α):(arK e n f).length=n:=by simp[arK]
theorem k0r {n:Nat}{f:Nat→α}{k:Nat}(h:k<n){j:Nat}(hj:j=k):(arK e n f)[j]? =some (.val (e (f k))):=by subst hj;simp[arK,h]
theorem e0r {n:Nat}{f g:Nat→α}(h: ∀q,q<n→f q=g q):arK e n f=arK e n g:=List.map_congr_left fun q hq=>by rw[h q (List.mem_range.1 hq)]
theorem h0l {n:Nat}{f:Nat→α}{k:Nat}(h:k<n)(v:α){j:Nat}(hj:j=k):a0c (arK e n f) j [.val (e v)]=arK e n (fun q=>if q=k then v else f q):=by
 subst hj
 show(arK e n f).set j _=_
 apply List.ext_getElem?
 intro q
 rw[List.getElem?_set,arK,arK]
 by_cases hq:q<n
 ·by_cases e':j=q
  ·subst e';simp[h]
  ·simp[hq,e',show ¬q=j from fun e''=>e' e''.symm]
 ·by_cases e':j=q
  ·subst e';omega
  ·simp[hq,e']
end
end Go.Proofs.YtojomcdjcpmnkaaGreat.A
namespace Go.Proofs.YtojomcdjcpmnkaaGreat.By
open Go.RowKit L A
theorem i0X (b:List UInt8): ∀t,(wTo b t).length=t
 |0=>rfl
 |t+1=>by
  show(wTo b t++[_]).length=_
  rw[cH,i0X b t];rfl
theorem k0E (b:List UInt8)(t q:Nat):(wTo b (t+1)).getD q 0=if q=t then(if t<16 then i0e b t else i0r (wTo b t) t)else(wTo b t).getD q 0:=by
 show(wTo b t++[_]).getD q 0=_
 have hl:=i0X b t
 by_cases h:q=t
 ·subst h
  rw[if_pos rfl,List.getD_eq_getElem?_getD,List.getElem?_append_right (by omega),hl]
  simp
 rw[if_neg h]
 simp only[List.getD_eq_getElem?_getD]
 by_cases h2:q<t
 ·rw[List.getElem?_append_left (by omega)]
 rw[List.getElem?_append_right (by omega),hl]
 have h3:1≤q-t:=by omega
 rw[List.getElem?_eq_none (by simpa using h3),List.getElem?_eq_none (by omega)]
def k0z (b:List UInt8)(t:Nat):List AV:=arK e32 64 fun q=>(wTo b t).getD q 0
theorem h0q (b:List UInt8){t:Nat}(ht:t<64){v:UInt32}(hv:v=if t<16 then i0e b t else i0r (wTo b t) t){j:Nat}(hj:j=t):a0c (k0z b t) j [.val (e32 v)]=k0z b (t+1):=by
 unfold k0z
 rw[h0l ht v hj]
 exact e0r fun q _=>by rw[k0E,hv]
theorem c0x (b:List UInt8)(t:Nat){k:Nat}(hk:k<64){j:Nat}(hj:j=k):(k0z b t)[j]? =some (.val (e32 ((wTo b t).getD k 0))):=k0r hk hj
abbrev c8 (s:H8):List AV:= [.val (e32 s.a),.val (e32 s.b),.val (e32 s.c),.val (e32 s.d),.val (e32 s.e),.val (e32 s.f),.val (e32 s.g),.val (e32 s.h)]
theorem j0q (w:List UInt32)(s:H8)(t:Nat):m0Q w s (t+1)=rnd (k256.getD t 0) (w.getD t 0) (m0Q w s t):=rfl
theorem k0Y (n:Nat):(n+1+g0b n)%64=56:=by unfold g0b;omega
theorem g0S {n k:Nat}(h:k<g0b n):(n+1+k)%64≠56:=by unfold g0b at h;omega
theorem j0F (n:Nat):g0b n<64:=by unfold g0b;omega
theorem n0b {n k:Nat}(hk:k≤g0b n)(h:(n+1+k)%64=56):k=g0b n:=by
 by_cases g:k<g0b n
 ·exact absurd h (g0S g)
 omega
def i0v (n k:Nat):List UInt8:=(o0U n).take k
theorem j0R (n:Nat):i0v n 8=o0U n:=rfl
theorem i0u (n:Nat){k:Nat}(hk:k<8):i0v n (k+1)=i0v n k++[UInt8.ofNat (n*8/2^ (8*(7-k)))]:=by
 match k,hk with
 |0,_|1,_|2,_|3,_|4,_|5,_|6,_|7,_=>rfl
theorem o0q (b:List UInt8){p:List UInt8}{k:Nat}(hp:p=l0a b)(hk:64*k=p.length):q0l (b0Y p k)=sha b:=by
 subst hp
 unfold sha
 rw[←hk,Nat.mul_div_cancel_left _ (by omega)]
theorem l0m (k:List UInt8):(n0w k).length=64:=by
 unfold n0w
 by_cases h:64<k.length
 ·simp only[if_pos h,cH,List.length_replicate,f0n]
 simp only[if_neg h,cH,List.length_replicate];omega
theorem f0G (prk info:List UInt8)(k:Nat):(h0c prk info (k+1)).length=32:=rfl
theorem e0i (prk info:List UInt8)(k:Nat):b0B prk info (k+1)=b0B prk info k++h0c prk info (k+1):=by
 unfold b0B
 rw[List.range_succ,List.flatMap_append]
 simp
theorem d0f (prk info:List UInt8): ∀k,(b0B prk info k).length=32*k
 |0=>rfl
 |k+1=>by rw[e0i,cH,d0f prk info k,f0G];omega
theorem d0e {prk info:List UInt8}{n:Nat}:(c0u prk info n).length=n:=by
 unfold c0u
 rw[List.length_take,d0f]
 omega
end Go.Proofs.YtojomcdjcpmnkaaGreat.By
namespace Go.Proofs.YtojomcdjcpmnkaaGreat.A
open Go.RowKit L
section
variable {Γ:Cx}{P:Program}{Q:Exit→Act→World→Prop}{E:Env}{H:List HE}{N:Nat}{o:Oper}{ops:Array Oper}{rest:List Oper}
theorem O.sliceLHm {m:Nat}{T:Nat}{x y y':Operand}{full:Bool}{n:Nat}{l h:Nat}{kk kk':IntKind}{z z':Int}{xs ys:List AV}{U sz bs:Nat}{zz:Value}[hs:TyS P T U sz bs zz](ho:o.op= .slice T x (some y) (some y') none)(hx:ev E x=some (.ro full n xs))(hy:ev E y=some (.val (.int kk z)))(hy':ev E y'=some (.val (.int kk' z')))
  (hz:z=(l:Int)) (hz':z'=(h:Int)) (hlh:l≤h) (hhn:h≤n) (hm:h-l=m) (hys:(xs.drop (l*sz)).take (m*sz)=ys):OpW P N o E H (Is (.ro false m ys)):=by
 subst hm
 exact O.sliceLH ho hx hy hy' hz hz' hlh hhn hys
end
theorem n0M {n m:Nat}{f g:Nat→UInt8}:arB n f++arB m g=arB (n+m) (fun q=>if q<n then f q else g (q-n)):=by
 apply List.ext_getElem?
 intro q
 rw[List.getElem?_append,a0b]
 by_cases h:q<n
 ·rw[if_pos h,a0u h rfl,a0u (k:=q) (by omega) rfl,if_pos h]
 ·rw[if_neg h]
  by_cases h2:q<n+m
  ·rw[a0u (k:=q-n) (by omega) rfl,a0u (k:=q) h2 rfl,if_neg h]
  ·rw[List.getElem?_eq_none (by rw[a0b];omega),List.getElem?_eq_none (by rw[a0b];omega)]
end Go.Proofs.YtojomcdjcpmnkaaGreat.A
namespace Go.Proofs.YtojomcdjcpmnkaaGreat.By
open Go.RowKit L A
attribute [local irreducible] AW AQ AO
theorem h0s {a:UInt32}{n:Nat}{z:Int}(hz:z=(n:Int))(hn:n<32):IntKind.u32.wrap ((a.toNat:Int)*2^ (min z.toNat IntKind.u32.bits))=((a<<<UInt32.ofNat n).toNat:Int):=by
 subst hz;exact q0a hn
theorem e0J {a:UInt32}{n:Nat}{z:Int}(hz:z=(n:Int))(hn:n<32):((a.toNat:Int)).fdiv (2^ (min z.toNat IntKind.u32.bits))=((a>>>UInt32.ofNat n).toNat:Int):=by
 subst hz;exact p0Z hn
theorem k0R (x:UInt32)(n:Nat)(hn:0<n∧n<32):Sp Tryz.prog 211 [.val (e32 x),.val (.int .i64 (0-(n:Int)))] [] (Is (.val (e32 (rr x (UInt32.ofNat n))))):=by
 have hw:IntKind.u64.wrap (0-(n:Int))=18446744073709551616-(n:Int):=by rw[IntKind.wrap_u64];omega
 have hr:(x<<<UInt32.ofNat (32-n))|||(x>>>UInt32.ofNat n)=rr x (UInt32.ofNat n):=by
  unfold rr
  rw[UInt32.or_comm,show(32:UInt32)-UInt32.ofNat n=UInt32.ofNat (32-n) by rw[UInt32.ofNat_sub (by omega)];rfl]
 refine yr Tryz.func211 _ Tryz.ntmps211 (fun w0 R0=> ?_)
 refine zB (zr ?_)
 refine zc (zE (zm (zB (zr ?_))))
 refine zb ?_
 refine wl (O.conv rfl rfl (by rfl)) ?_
 refine wl (O.and_ rfl rfl rfl (m0r 5 (by decide) (by decide) (m:=32) (by decide) (by omega))) ?_
 refine zc (zE (zm (zB (zr ?_))))
 refine zb ?_
 refine zb ?_
 refine wl (O.shl rfl rfl rfl (by omega) (h0s (n:=32-n) (by omega) (by omega))) ?_
 refine zb ?_
 refine zb ?_
 refine wl (O.sub rfl rfl rfl (by exact l0L (by omega))) ?_
 refine wl (O.shr rfl rfl rfl (by omega) (e0J (n:=n) (by omega) (by omega))) ?_
 refine wl (O.or_ rfl rfl rfl p0L) ?_
 refine zc (zE (zm (yR ?_)))
 refine AQ.ret1 rfl rfl nS (⟨by rw[hr],rfl⟩)
theorem c0s (x:UInt32)(n:Nat)(hn:0<n∧n<32):Sp Tryz.prog 205 [.val (e32 x),.val (.int .i64 (n:Int))] [] (Is (.val (e32 (rr x (UInt32.ofNat n))))):=by
 refine yr Tryz.func205 _ Tryz.ntmps205 (fun w0 R0=> ?_)
 refine zB (zr ?_)
 refine zc (zE (zm (zB (zr ?_))))
 refine zb ?_
 refine zb ?_
 refine wl (O.neg rfl rfl (by exact f0U (by omega))) ?_
 refine wl (xl rfl Tryz.func211 rfl rfl rfl (k0R x n hn)) ?_
 refine zc (zE (zm (yR ?_)))
 refine yd
def kk512:List UInt64:= [0x428a2f98d728ae22,0x7137449123ef65cd,0xb5c0fbcfec4d3b2f,0xe9b5dba58189dbbc,0x3956c25bf348b538,0x59f111f1b605d019,0x923f82a4af194f9b,0xab1c5ed5da6d8118,
 0xd807aa98a3030242,0x12835b0145706fbe,0x243185be4ee4b28c,0x550c7dc3d5ffb4e2,0x72be5d74f27b896f,0x80deb1fe3b1696b1,0x9bdc06a725c71235,0xc19bf174cf692694,
 0xe49b69c19ef14ad2,0xefbe4786384f25e3,0x0fc19dc68b8cd5b5,0x240ca1cc77ac9c65,0x2de92c6f592b0275,0x4a7484aa6ea6e483,0x5cb0a9dcbd41fbd4,0x76f988da831153b5,
 0x983e5152ee66dfab,0xa831c66d2db43210,0xb00327c898fb213f,0xbf597fc7beef0ee4,0xc6e00bf33da88fc2,0xd5a79147930aa725,0x06ca6351e003826f,0x142929670a0e6e70,
 0x27b70a8546d22ffc,0x2e1b21385c26c926,0x4d2c6dfc5ac42aed,0x53380d139d95b3df,0x650a73548baf63de,0x766a0abb3c77b2a8,0x81c2c92e47edaee6,0x92722c851482353b,
 0xa2bfe8a14cf10364,0xa81a664bbc423001,0xc24b8b70d0f89791,0xc76c51a30654be30,0xd192e819d6ef5218,0xd69906245565a910,0xf40e35855771202a,0x106aa07032bbd1b8,
 0x19a4c116b8d2d0c8,0x1e376c085141ab53,0x2748774cdf8eeb99,0x34b0bcb5e19b48a8,0x391c0cb3c5c95a63,0x4ed8aa4ae3418acb,0x5b9cca4f7763e373,0x682e6ff3d6b2b8a3,
 0x748f82ee5defb2fc,0x78a5636f43172f60,0x84c87814a1f0ab72,0x8cc702081a6439ec,0x90befffa23631e28,0xa4506cebde82bde9,0xbef9a3f7b2c67915,0xc67178f2e372532b,
 0xca273eceea26619c,0xd186b8c721c0c207,0xeada7dd6cde0eb1e,0xf57d4f7fee6ed178,0x06f067aa72176fba,0x0a637dc5a2c898a6,0x113f9804bef90dae,0x1b710b35131c471b,
 0x28db77f523047d84,0x32caab7b40c72493,0x3c9ebe0a15c9bebc,0x431d67c49c100d4c,0x4cc5d4becb3e42b6,0x597f299cfc657e2a,0x5fcb6fab3ad6faec,0x6c44198c4a475817]
def hh512:List UInt64:= [0x6a09e667f3bcc908,0xbb67ae8584caa73b,0x3c6ef372fe94f82b,0xa54ff53a5f1d36f1,0x510e527fade682d1,0x9b05688c2b3e6c1f,0x1f83d9abfb41bd6b,0x5be0cd19137e2179]
def kkA:List AV:=kk512.map fun a=> .val (e64 a)
theorem n0t:kkA.length=80:=rfl
instance :TyB Tryz.prog 226 ((List.range 80).map fun i=>(i*1,1)) (.agg ⟨List.replicate 80 (.int .u64 0)⟩):=⟨_,Tryz.type226,by kernel_rfl,.inr ⟨80,88,_,Tryz.underlying226,Tryz.type88,by kernel_rfl⟩⟩
theorem g0s:Sp Tryz.prog 204 [] [] (Is (.agg kkA)):=by
 refine yr Tryz.func204 _ Tryz.ntmps204 (fun w0 R0=> ?_)
 refine zB (zr ?_)
 refine zd ?_
 intro B1
 refine zE (zm (zB (zr ?_)))
 refine zT ?_
 refine za 0 (zE (zm (yR ?_)))
 refine AQ.retCell rfl rfl (by repeat(exact List.Mem.head _)) (by rfl) rfl nS (⟨rfl,rfl⟩)
theorem i0y:Sp Tryz.prog 192 [] [] (Is (.agg (hh512.map fun a=> .val (e64 a)))):=by
 refine yr Tryz.func192 _ Tryz.ntmps192 (fun w0 R0=> ?_)
 refine zB (zr ?_)
 refine zd ?_
 intro B1
 refine zE (zm (zB (zr ?_)))
 refine zT ?_
 refine za 0 (zE (zm (yR ?_)))
 refine AQ.retCell rfl rfl (by repeat(exact List.Mem.head _)) (by rfl) rfl nS (⟨rfl,rfl⟩)
theorem n0u {k:Nat}(h:k<80){j:Nat}(hj:j=k):kkA[j]? =some (.val (e64 (kk512.getD k 0))):=by
 subst hj
 have hl:kk512.length=80:=rfl
 simp[kkA,List.getD,show j<kk512.length by omega]
theorem q0r {t:Nat}(h:t<64):IntKind.u32.wrap (((kk512.getD t 0).toNat:Int)/4294967296)=((k256.getD t 0).toNat:Int):=by
 have key: ∀t,t<64→(kk512.getD t 0).toNat/4294967296=(k256.getD t 0).toNat:=by decide +kernel
 have:=key t h
 have h2:=(k256.getD t 0).toNat_lt
 rw[c0b]
 omega
theorem f0h (b:List UInt8)(t:Nat):(k0z b t).length=64:=h0m _ _
def h8 (s:H8)(q:Nat):UInt32:=match q with|0=>s.a|1=>s.b|2=>s.c|3=>s.d|4=>s.e|5=>s.f|6=>s.g|_=>s.h
def i0s (s r:H8)(i q:Nat):UInt32:=if q<i then h8 s q+h8 r q else h8 s q
theorem l0i (s r:H8)(i q:Nat):(if q=i then i0s s r i i+h8 r i else i0s s r i q)=i0s s r (i+1) q:=by
 unfold i0s
 by_cases h:q=i
 ·subst h;rw[if_pos rfl,if_neg (by omega),if_pos (by omega)]
 rw[if_neg h]
 by_cases h2:q<i
 ·rw[if_pos h2,if_pos (by omega)]
 rw[if_neg h2,if_neg (by omega)]
theorem l0j (s r:H8):arK e32 8 (i0s s r 8)=c8 (q0L s r):=rfl
theorem m0n (r:H8){k:Nat}(h:k<8){j:Nat}(hj:j=k):(c8 r)[j]? =some (.val (e32 (h8 r k))):=by
 subst hj
 have hc:j=0∨j=1∨j=2∨j=3∨j=4∨j=5∨j=6∨j=7:=by omega
 rcases hc with rfl|rfl|rfl|rfl|rfl|rfl|rfl|rfl<;>rfl
theorem j0O (s r:H8):arK e32 8 (i0s s r 0)=c8 s:=rfl
set_option maxHeartbeats 8000000 in
theorem h0k (s:H8)(b:List UInt8)(hb:b.length=64):Sp Tryz.prog 194 [.agg (c8 s),roB b] [] (Is (.agg (c8 (h0V s b)))):=by
 refine yr Tryz.func194 _ Tryz.ntmps194 (fun w0 R0=> ?_)
 refine zB (zr ?_)
 refine ya ?_
 intro B1
 refine zd ?_
 intro B2
 refine zE (zm (zB (zr ?_)))
 refine wl (xl rfl Tryz.func204 rfl rfl rfl g0s) ?_
 refine zd ?_
 intro B3
 refine ye 0 (zE (zm (zB (zr ?_))))
 refine zd ?_
 intro B4
 refine zE (zm (zB (zB (zr ?_))))
 refine zb (zE (zm (yT ?_)))
 have hsp: ∀xs:List AV,xs.length=80→a0c xs 0 kkA=kkA:=fun xs h=>d0W (by rw[h,n0t])
 rw[hsp _ rfl]
 refine zh [(1,_),(2,_),(4,_),(5,_),(6,_)] (fun nn E H=> ∃(t:Nat),(t≤64)∧nn=64-t∧E= [(18,.val (.int .i64 (t:Int)))]∧H= [.blk B4 228 64 (k0z b t),.blk B3 226 80 kkA,.blk B2 207 8 [.val (e32 0),.val (e32 0),.val (e32 0),.val (e32 0),.val (e32 0),.val (e32 0),.val (e32 0),.val (e32 0)],.blk B1 207 8 (c8 s)]) _ (⟨0,by omega,rfl,rfl,rfl⟩) ?_
 rintro nn E H ⟨t,ht,rfl,rfl,rfl⟩
 dsimp only[cA,cN]
 refine zB (zr ?_)
 refine zN (zE (zm (zB ?_)))
 refine yk (fun hlt=> ?_) (fun hlt=> ?_)<;>(try simp only[wr]at hlt)
 ·refine yI (zm (zB (yT (zB (zr ?_)))))
  refine zb ?_
  refine zc (zE (zm (zB (zB (zr ?_)))))
  refine zb ?_
  refine zN (zE (zm ?_))
  refine yk (fun h16=> ?_) (fun h16=> ?_)<;>(try simp only[wr]at h16)
  ·have hwv:i0e b t=if t<16 then i0e b t else i0r (wTo b t) t:=(if_pos (by omega)).symm
   refine zB ?_
   refine yv 35 ?_
   simp only[cT,cZ,cD,cO]
   refine zG ?_
   refine zG ?_
   refine zG ?_
   refine xK ?_
   refine xH ?_
   refine wm (O.loadR rfl rfl (by exact c0N (k:=4*t) (by omega) (by omega))) ?_
   refine wm (O.conv rfl rfl c0K) ?_
   refine wm (O.shl rfl rfl rfl (by omega) (h0s (n:=24) rfl (by decide))) ?_
   refine zG ?_
   refine zG ?_
   refine xK ?_
   refine xL ?_
   refine xH ?_
   refine wm (O.loadR rfl rfl (by exact c0N (k:=4*t+1) (by omega) (by omega))) ?_
   refine wm (O.conv rfl rfl c0K) ?_
   refine wm (O.shl rfl rfl rfl (by omega) (h0s (n:=16) rfl (by decide))) ?_
   refine wm (O.or_ rfl rfl rfl p0L) ?_
   refine zG ?_
   refine zG ?_
   refine xK ?_
   refine xL ?_
   refine xH ?_
   refine wm (O.loadR rfl rfl (by exact c0N (k:=4*t+2) (by omega) (by omega))) ?_
   refine wm (O.conv rfl rfl c0K) ?_
   refine wm (O.shl rfl rfl rfl (by omega) (h0s (n:=8) rfl (by decide))) ?_
   refine wm (O.or_ rfl rfl rfl p0L) ?_
   refine zG ?_
   refine zG ?_
   refine xK ?_
   refine xL ?_
   refine xH ?_
   refine wm (O.loadR rfl rfl (by exact c0N (k:=4*t+3) (by omega) (by omega))) ?_
   refine wm (O.conv rfl rfl c0K) ?_
   refine wm (O.or_ rfl rfl rfl p0L) ?_
   refine yo ?_
   refine wh ?_
   simp only[a0l,cN,cA,cP]
   refine AO.store (i:=0) rfl rfl rfl rfl rfl rfl (by rfl) (by rfl) (Nat.ble_eq_true_of_le (by rw[f0h];omega)) (by exact h0q b (by omega) hwv (by omega)) (by(dsimp only[List.set,List.append,cA,cN,AV.cells,a0c,List.take,List.drop,Nat.reduceAdd];done)) (zE (zm ?_))
   refine xx ?_
   refine xp ?_
   refine y2 (zm (zr ?_))
   refine zA ?_
   refine zb (zE ?_)
   refine zn _ _ _ (by omega) (⟨t+1,by omega,rfl,rfl,rfl⟩)
  have hwv:i0r (wTo b t) t=if t<16 then i0e b t else i0r (wTo b t) t:=(if_neg (by omega)).symm
  refine yI (zm (zB ?_))
  refine yv 10 ?_
  simp only[cT,cZ,cD,cO]
  refine zG ?_
  refine xy ?_
  refine yo ?_
  refine wm (O.load rfl rfl (by repeat(exact List.Mem.head _)) (by exact c0x b t (k:=t-15) (by omega) (by omega))) ?_
  refine zG ?_
  refine xy ?_
  refine yo ?_
  refine wm (O.load rfl rfl (by repeat(exact List.Mem.head _)) (by exact c0x b t (k:=t-2) (by omega) (by omega))) ?_
  refine we ?_
  refine we ?_
  refine wh ?_
  simp only[a0l,cN,cA,cP]
  refine zE (zm ?_)
  refine yv 29 ?_
  simp only[cT,cZ,cD,cO]
  refine zG ?_
  refine zG ?_
  refine wm (xl rfl Tryz.func205 rfl rfl rfl (c0s _ 17 ⟨by decide,by decide⟩)) ?_
  refine zG ?_
  refine wm (xl rfl Tryz.func205 rfl rfl rfl (c0s _ 19 ⟨by decide,by decide⟩)) ?_
  refine wc ?_
  refine zG ?_
  refine wm (O.shr rfl rfl rfl (by omega) (e0J (n:=10) rfl (by decide))) ?_
  refine wc ?_
  refine zG ?_
  refine xy ?_
  refine yo ?_
  refine wm (O.load rfl rfl (by repeat(exact List.Mem.head _)) (by exact c0x b t (k:=t-7) (by omega) (by omega))) ?_
  refine wm (O.add rfl rfl rfl e0w) ?_
  refine zG ?_
  refine wm (xl rfl Tryz.func205 rfl rfl rfl (c0s _ 7 ⟨by decide,by decide⟩)) ?_
  refine zG ?_
  refine wm (xl rfl Tryz.func205 rfl rfl rfl (c0s _ 18 ⟨by decide,by decide⟩)) ?_
  refine wc ?_
  refine zG ?_
  refine wm (O.shr rfl rfl rfl (by omega) (e0J (n:=3) rfl (by decide))) ?_
  refine wc ?_
  refine wm (O.add rfl rfl rfl e0w) ?_
  refine zG ?_
  refine xy ?_
  refine yo ?_
  refine wm (O.load rfl rfl (by repeat(exact List.Mem.head _)) (by exact c0x b t (k:=t-16) (by omega) (by omega))) ?_
  refine wm (O.add rfl rfl rfl e0w) ?_
  refine yo ?_
  refine wh ?_
  simp only[a0l,cN,cA,cP]
  refine AO.store (i:=0) rfl rfl rfl rfl rfl rfl (by rfl) (by rfl) (Nat.ble_eq_true_of_le (by rw[f0h];omega)) (by exact h0q b (by omega) hwv (by omega)) (by(dsimp only[List.set,List.append,cA,cN,AV.cells,a0c,List.take,List.drop,Nat.reduceAdd];done)) (zE (y5 (zm (zr ?_))))
  refine zA ?_
  refine zb (zE ?_)
  refine zn _ _ _ (by omega) (⟨t+1,by omega,rfl,rfl,rfl⟩)
 obtain rfl:t=64:=by omega
 refine xx ?_
 refine xp ?_
 refine xu ?_
 refine y2 (zm (zB (zr ?_)))
 refine wl (O.loadK rfl rfl mM (by(dsimp only[List.set,List.append,cA,cN,AV.cells,a0c,List.take,List.drop,Nat.reduceAdd];done)) (by rfl)) ?_
 refine zd ?_
 intro B5
 refine ye 0 (zE (zm (zB (zB (zr ?_)))))
 refine zb (zE (zm (yT ?_)))
 refine zh [(2,_),(4,_),(5,_),(6,_),(10,_)] (fun nn E H=> ∃(t:Nat),(t≤64)∧nn=64-t∧E= [(97,.val (.int .i64 (t:Int)))]∧H= [.blk B5 207 8 (c8 (m0Q (wTo b 64) s t)),.blk B4 228 64 (k0z b 64),.blk B3 226 80 kkA,.blk B2 207 8 [.val (e32 0),.val (e32 0),.val (e32 0),.val (e32 0),.val (e32 0),.val (e32 0),.val (e32 0),.val (e32 0)],.blk B1 207 8 (c8 s)]) _ (⟨0,by omega,rfl,rfl,rfl⟩) ?_
 rintro nn E H ⟨t,ht,rfl,rfl,rfl⟩
 dsimp only[cA,cN]
 refine zB (zr ?_)
 refine zN (zE (zm (zB ?_)))
 refine yk (fun hlt=> ?_) (fun hlt=> ?_)<;>(try simp only[wr]at hlt)
 ·have hkt:=q0r (t:=t) (by omega)
  have hrd:=j0q (wTo b 64) s t
  have hk1: ∀j,j=t→kkA[j]? =some (.val (e64 (kk512.getD t 0))):=fun j hj=>n0u (by omega) hj
  have hw1: ∀j,j=t→(k0z b 64)[j]? =some (.val (e32 ((wTo b 64).getD t 0))):=fun j hj=>c0x b 64 (by omega) hj
  have hwl:=f0h b 64
  generalize(wTo b 64).getD t 0=wt at*
  generalize m0Q (wTo b 64) s t=q at*
  generalize k0z b 64=WA at*
  generalize kkA=KA at*
  generalize kk512.getD t 0=kt at*
  generalize k256.getD t 0=kc at*
  refine yI (zm (zB (yT (zB (zr ?_)))))
  refine zb ?_
  refine zc (zE (zm (zB ?_)))
  refine yv 6 ?_
  simp only[cT,cZ,cD,cO]
  refine yo ?_
  refine yD ?_
  refine yo ?_
  refine yD ?_
  refine we ?_
  refine we ?_
  refine wh ?_
  simp only[a0l,cN,cA,cP]
  refine zE (zm (zB ?_))
  refine yv 33 ?_
  simp only[cT,cZ,cD,cO]
  refine yo ?_
  refine yD ?_
  refine zG ?_
  refine wm (xl rfl Tryz.func205 rfl rfl rfl (c0s _ 6 ⟨by decide,by decide⟩)) ?_
  refine zG ?_
  refine wm (xl rfl Tryz.func205 rfl rfl rfl (c0s _ 11 ⟨by decide,by decide⟩)) ?_
  refine wc ?_
  refine zG ?_
  refine wm (xl rfl Tryz.func205 rfl rfl rfl (c0s _ 25 ⟨by decide,by decide⟩)) ?_
  refine wc ?_
  refine wm (O.add rfl rfl rfl e0w) ?_
  refine zG ?_
  refine yo ?_
  refine yD ?_
  refine wm (O.and_ rfl rfl rfl k0s) ?_
  refine zG ?_
  refine wm (O.com32 rfl rfl) ?_
  refine yo ?_
  refine yD ?_
  refine wm (O.and_ rfl rfl rfl k0s) ?_
  refine wc ?_
  refine wm (O.add rfl rfl rfl e0w) ?_
  refine zG ?_
  refine yo ?_
  refine wm (O.load rfl rfl mM (by exact hk1 _ (by omega))) ?_
  refine wm (O.shrK 32 4294967296 rfl rfl rfl rfl (by rfl)) ?_
  refine wm (O.conv rfl rfl hkt) ?_
  refine wm (O.add rfl rfl rfl e0w) ?_
  refine zG ?_
  refine yo ?_
  refine wm (O.load rfl rfl mM (by exact hw1 _ (by omega))) ?_
  refine wm (O.add rfl rfl rfl e0w) ?_
  refine we ?_
  refine wh ?_
  simp only[a0l,cN,cA,cP]
  refine zE (zm (zB ?_))
  refine yv 25 ?_
  simp only[cT,cZ,cD,cO]
  refine zG ?_
  refine wm (xl rfl Tryz.func205 rfl rfl rfl (c0s _ 2 ⟨by decide,by decide⟩)) ?_
  refine zG ?_
  refine wm (xl rfl Tryz.func205 rfl rfl rfl (c0s _ 13 ⟨by decide,by decide⟩)) ?_
  refine wc ?_
  refine zG ?_
  refine wm (xl rfl Tryz.func205 rfl rfl rfl (c0s _ 22 ⟨by decide,by decide⟩)) ?_
  refine wc ?_
  refine zG ?_
  refine yo ?_
  refine yD ?_
  refine wm (O.and_ rfl rfl rfl k0s) ?_
  refine zG ?_
  refine yo ?_
  refine yD ?_
  refine wm (O.and_ rfl rfl rfl k0s) ?_
  refine wc ?_
  refine yo ?_
  refine yD ?_
  refine yo ?_
  refine yD ?_
  refine wm (O.and_ rfl rfl rfl k0s) ?_
  refine wc ?_
  refine wm (O.add rfl rfl rfl e0w) ?_
  refine we ?_
  refine wh ?_
  simp only[a0l,cN,cA,cP]
  refine zE (zm (zr ?_))
  refine zb ?_
  refine zb ?_
  refine wl (O.add rfl rfl rfl e0w) ?_
  refine zb ?_
  refine xo ?_
  refine zt ?_
  refine xo ?_
  refine zt ?_
  refine xo ?_
  refine zt ?_
  refine zb ?_
  refine wl (O.add rfl rfl rfl e0w) ?_
  refine zb ?_
  refine xo ?_
  refine zt ?_
  refine xo ?_
  refine zt ?_
  refine zT ?_
  refine ye 0 (zE (y5 (zm (zr ?_))))
  refine zA ?_
  refine zb (zE ?_)
  refine zn _ _ _ (by omega) (⟨t+1,by omega,rfl,rfl,by rw[hrd]⟩)
 obtain rfl:t=64:=by omega
 generalize hr:m0Q (wTo b 64) s 64=r at*
 have hbr:h0V s b=q0L s r:=by rw[←hr];rfl
 generalize k0z b 64=WA at*
 generalize kkA=KA at*
 rw[←j0O s r]
 refine xx ?_
 refine xp ?_
 refine xu ?_
 refine y2 (zm (zB (zB (zr ?_))))
 refine zb (zE (zm (yT ?_)))
 refine zh [(2,_),(4,_),(10,_)] (fun nn E H=> ∃(i:Nat),(i≤8)∧nn=8-i∧E= [(179,.val (.int .i64 (i:Int)))]∧H= [.blk B5 207 8 (c8 r),.blk B4 228 64 WA,.blk B3 226 80 KA,.blk B2 207 8 [.val (e32 0),.val (e32 0),.val (e32 0),.val (e32 0),.val (e32 0),.val (e32 0),.val (e32 0),.val (e32 0)],.blk B1 207 8 (arK e32 8 (i0s s r i))]) _ (⟨0,by omega,rfl,rfl,rfl⟩) ?_
 rintro nn E H ⟨i,hi,rfl,rfl,rfl⟩
 dsimp only[cA,cN]
 refine zB (zr ?_)
 refine zN (zE (zm (zB ?_)))
 refine yk (fun hlt=> ?_) (fun hlt=> ?_)<;>(try simp only[wr]at hlt)
 ·have hg1: ∀j,j=i→(arK e32 8 (i0s s r i))[j]? =some (.val (e32 (i0s s r i i))):=fun j hj=>k0r (by omega) hj
  have hg2: ∀j,j=i→(c8 r)[j]? =some (.val (e32 (h8 r i))):=fun j hj=>m0n r (by omega) hj
  have hs1: ∀j,j=i→a0c (arK e32 8 (i0s s r i)) j [.val (e32 (i0s s r i i+h8 r i))]=arK e32 8 (i0s s r (i+1)):=fun j hj=>by
   rw[h0l (by omega:i<8) _ hj]
   exact e0r fun q _=>l0i s r i q
  have hln:(arK e32 8 (i0s s r i)).length=8:=h0m _ _
  refine yI (zm (zB (yT (zB (zr ?_)))))
  refine zb ?_
  refine zc (zE (zm ?_))
  refine yv 8 ?_
  simp only[cT,cZ,cD,cO]
  refine zG ?_
  refine yo ?_
  refine wm (O.load rfl rfl mM (by exact hg1 _ (by omega))) ?_
  refine zG ?_
  refine yo ?_
  refine wm (O.load rfl rfl (by repeat(exact List.Mem.head _)) (by exact hg2 _ (by omega))) ?_
  refine wm (O.add rfl rfl rfl e0w) ?_
  refine yo ?_
  refine wh ?_
  simp only[a0l,cN,cA,cP]
  refine AO.store (i:=4) rfl rfl rfl rfl rfl rfl (by rfl) (by rfl) (by exact Nat.ble_eq_true_of_le (by rw[hln];omega)) (by exact hs1 _ (by omega)) (by(dsimp only[List.set,List.append,cA,cN,AV.cells,a0c,List.take,List.drop,Nat.reduceAdd];done)) (zE (y5 (zm (zr ?_))))
  refine zA ?_
  refine zb (zE ?_)
  refine zn _ _ _ (by omega) (⟨i+1,by omega,rfl,rfl,rfl⟩)
 obtain rfl:i=8:=by omega
 rw[l0j]
 refine xx ?_
 refine xp ?_
 refine xu ?_
 refine y2 (zm (zB (zr ?_)))
 refine wl (O.loadK rfl rfl mM (by(dsimp only[List.set,List.append,cA,cN,AV.cells,a0c,List.take,List.drop,Nat.reduceAdd];done)) (by rfl)) ?_
 refine ye 3 (zE (zm (yR ?_)))
 refine AQ.retCell rfl rfl mM (by rfl) rfl nS (⟨congrArg (fun x=>AV.agg (c8 x)) hbr.symm,rfl⟩)
end Go.Proofs.YtojomcdjcpmnkaaGreat.By
namespace Go.Proofs.YtojomcdjcpmnkaaGreat.A
open Go.RowKit L
section
variable {Γ:Cx}{P:Program}{E:Env}{H:List HE}{N:Nat}{o:Oper}
theorem RelV.plain {R R':Nat→Prop}{W W':World}{x:AV}{u:Value}(hx: ∃c,x= .val c)(h:RelV R W x u):RelV R' W' x u:=by
 obtain⟨c,rfl⟩:=hx
 rw[h.val_inv];exact .val _
inductive LendX (H:List HE):List AV→List AV→Prop
 |nil:LendX H [] []
 |same {a:AV} {r r':List AV}:LendX H r r'→LendX H (a::r) (a::r')
 |row {v:Value} {T sz n:Nat} {rs r r':List AV} (i:Nat) (hi:H[i]? =some (.row v T sz n rs)):LendX H r r'→LendX H (.val v::r) (.ro false n rs::r')
 |agg {xs xs' r r':List AV}:LendX H xs xs'→LendX H r r'→LendX H (.agg xs::r) (.agg xs'::r')
theorem LendX.rel {R:Nat→Prop}{W:World}(hok: ∀e∈H,e.ok R W){a a':List AV}(h:LendX H a a'): ∀{us:List Value},RelL R W a us→RelL (fun b=>R b∨ ∃e∈H,e.foot b) W a' us:=by
 induction h with
 |nil=>intro us h;exact h.mono (fun _ h=> .inl h) (fun _ _=>rfl)
 |same _ ih=>
  intro us h
  obtain⟨u,r,rfl,h1,h2⟩:=h.uncons
  exact RelL.cons (h1.mono (fun _ h=> .inl h) (fun _ _=>rfl)) (ih h2)
 |row i hi _ ih=>
  intro us h
  obtain⟨u,r,rfl,h1,h2⟩:=h.uncons
  have:=h1.val_inv
  subst this
  have hm:=List.mem_of_getElem? hi
  exact RelL.cons ((j0p (hok _ hm)).mono (fun b hb=>hb.elim .inl fun hf=> .inr ⟨_,hm,hf⟩) (fun _ _=>rfl)) (ih h2)
 |agg _ _ ih1 ih2=>
  intro us h
  obtain⟨u,r,rfl,h1,h2⟩:=h.uncons
  obtain⟨vs,rfl,hv⟩:=h1.agg_inv
  exact RelL.cons (ih1 hv).toAgg (ih2 h2)
theorem AO.callMGw {Q:Exit→Act→World→Prop}{ops:Array Oper}{rest:List Oper}{f:FuncId}{d:Nat}{xs:List Operand}{ats:Array TypeId}{args:List AV}(i:Nat){e:HE}{Post:AV→List HE→Prop}{fn:Func}(ho:o.op= .call {callee:= .value (.func f),args:=xs.toArray,argTypes:=ats})(hw:a0d ops E o=some true)(hfn:P.funcs[f]? =some fn)(hn:(fn.name== "runtime.NumGoroutine")=false)(hb:fn.body.isNone=false)
  (hx:evs E xs=some args) (hd:o.dst=some d) (hN:Nat.ble (d+1) Γ.N=true) (hi:H[i]? =some e) (h:Sp P f args [e] Post) (next: ∀r H',Post r H'→AO Γ P ops Q rest ((d,r)::E) (H'++H.eraseIdx i)):AO Γ P ops Q (o::rest) E H:=fun R a W hs ha=>by
 have h1:=AO.callMG (o:={o with guard:=none}) i ho rfl hfn hn hb hx hd hN hi h next R a W hs ha
 unfold wpList at h1⊢
 rw[if_pos (d0S ha hw)]
 rw[if_pos (by unfold Region.wanted;rfl)]at h1
 exact h1
end
def GK (g:Nat)(vs:List Value)(W:World):Prop:= ∃cs T,W.heap[g]? =some (.cells cs T (0,0))∧cs.toList=vs
theorem GK.lt {g:Nat}{vs:List Value}{W:World}(h:GK g vs W):g<W.heap.size:=by
 obtain⟨cs,T,h,_⟩:=h
 exact(Array.getElem?_eq_some_iff.1 h).1
theorem GK.mods {g:Nat}{vs:List Value}{S:Nat→Prop}{W W':World}(h:GK g vs W)(hm:Mods S W W')(hS: ¬S g):GK g vs W':=by
 have hl:=h.lt
 obtain⟨cs,T,h1,h2⟩:=h
 exact⟨cs,T,by rw[hm.block g hl hS];exact h1,h2⟩
def SpK (K:World→Prop)(P:Program)(f:FuncId)(args:List AV)(H0:List HE)(Post:AV→List HE→Prop):Prop:=
 ∀(W:World) (R:Nat→Prop) (us:List Value),K W→(∀b,R b→b<W.heap.size)→(∀e∈H0,e.ok R W∧ ∀b,e.foot b→ ¬R b)→H0.Pairwise Disj→RelL R W args us→
  Calls P f us.toArray W fun e W'=> ∃u r H' R',e= .returned u∧Post r H'∧RelS ⟨W,a0t H0,R,0⟩ R' H' W'∧RelV R' W' r u
theorem SpK.of {K:World→Prop}{P:Program}{f:FuncId}{args:List AV}{H0:List HE}{Post:AV→List HE→Prop}(h:Sp P f args H0 Post):SpK K P f args H0 Post:=fun W R us _ h1 h2 h3 h4=>h W R us h1 h2 h3 h4
theorem SpK.coe {K:World→Prop}{P:Program}{f:FuncId}{args args':List AV}{H0:List HE}{Post:AV→List HE→Prop}(h:SpK K P f args' H0 Post)(hc:CoeL args args'):SpK K P f args H0 Post:=fun W R us hK h1 h2 h3 h4=>h W R us hK h1 h2 h3 (hc R W us h4)
theorem SpK.enter {K:World→Prop}{P:Program}{f:FuncId}{args:List AV}{H0:List HE}{Post:AV→List HE→Prop}{fn:Func}{c:Code}(hf:P.funcs[f]? =some fn)(hb:fn.body=some c)(n:Nat)(hn:fn.ntmps=n)(hl:Nat.ble args.length n=true)
  (h: ∀w0 R0,K w0→AW ⟨w0,a0t H0,R0,n⟩ P (FnQ ⟨w0,a0t H0,R0,n⟩ P fn Post) c (g0k 0 args) H0):SpK K P f args H0 Post:=fun W R us hK h1 h2 h3 h4=>by
 refine calls_of_wp hf hb (h W R hK R _ W ⟨Mods.refl _ _,h1,fun _ h=>h,fun _ h=> .inl h,fun e he=>(h2 e he).1,fun e he b hb=>⟨.inr ⟨e,he,hb⟩,(h2 e he).2 b hb⟩,h3⟩ ⟨rfl,?_,?_⟩)
 ·have:=lB hl
  have h5:=h4.1
  simp[hn];omega
 ·intro t v ht
  have key: ∀(args:List AV) (k:Nat),a0j (g0k k args) t=some v→k≤t∧args[t-k]? =some v:=by
   intro args
   induction args with
   |nil=>intro k h;cases h
   | cons x r ih=>
    intro k h
    rw[g0k]at h
    unfold a0j at h
    cases hb:Nat.beq k t with
    |true=>
     rw[hb]at h
     have:=Nat.eq_of_beq_eq_true hb
     subst this
     simp at h⊢;exact h
    |false=>
     rw[hb]at h
     obtain⟨h5,h6⟩:=ih (k+1) h
     have:k≠t:=fun e=>by subst e;simp at hb
     refine⟨by omega,?_⟩
     rw[show t-k=(t-(k+1))+1 by omega]
     simpa using h6
  obtain⟨_,h5⟩:=key args 0 ht
  obtain⟨u,h6,h7⟩:=h4.get (j:=t) (by simpa using h5)
  have ht':t<us.length:=(List.getElem?_eq_some_iff.1 h6).1
  have hu:us[t]=u:=(List.getElem?_eq_some_iff.1 h6).2
  have:Act.eval {tmps:=us.toArray++Array.replicate (fn.ntmps-us.toArray.size) undef,defers:= []} (.tmp t)=u:=by
   simp only[Act.eval,Array.getD]
   rw[dif_pos (by simp;omega)]
   simp[Array.getElem_append,ht',hu]
  rw[this];exact h7
section
variable {Γ:Cx}{P:Program}{Q:Exit→Act→World→Prop}{E:Env}{H:List HE}{N:Nat}{o:Oper}{ops:Array Oper}{rest:List Oper}
theorem O.index1 {T U:Nat}{x y:Operand}{n:Nat}{kk:IntKind}{z:Int}{xs:List AV}{v:AV}[hd:TyD P T (.array n U)][hg:TyG P U false 1](ho:o.op= .index T x y)(hx:ev E x=some (.agg xs))(hy:ev E y=some (.val (.int kk z)))(hz:0≤z∧z<n)(hv:xs[z.toNat]? =some v):
  OpW P N o E H (Is v):= .of_run fun R a W h1 h2 ha=>by
 obtain⟨d,inf,hd1,hi1,hk1,hg1⟩:=hg.ax
 obtain⟨us,hu,hr⟩:=(ha.ev hx).agg_inv
 obtain⟨u,h3,h4⟩:=hr.get hv
 refine⟨u,?_,h4⟩
 simp only[execOp,ho,hu,(ha.ev hy).val_inv,Instr.index,asIntOf,run_underlying hd.ax,Sem.run_bind,Sem.run_pure,Result.andThen_ok,sizeOf,typeInfo,run_program,hi1,hk1]
 rw[if_pos hz]
 cases d<;>first|(cases hg1;done)|(simp[part,isAgg,run_underlying hd1,sizeOf,typeInfo,hi1,hk1,h3])
end
end Go.Proofs.YtojomcdjcpmnkaaGreat.A
