/-
  Texts laid together (part 2): what the statement's walk and plain law need. No condition.
-/
import Derived.Laws.StructEq
import Derived.Laws.MakeOwn
import Derived.Laws.IdiomStrings
import Derived.Lib.EndianBits
import Derived.Test.YtojomcdjcpmnkaaGreatZs1
set_option linter.unusedVariables false
set_option linter.unusedSimpArgs false
set_option maxRecDepth 20000
set_option maxHeartbeats 4000000
namespace Go.Proofs.YtojomcdjcpmnkaaGreat.A
open Go.RowKit L
def c0G (E:Env):Option Operand→Nat→Option Int
 |none,d=>some d
 |some x,_=>match ev E x with
  |some (.val (.int _ z))=>some z
  |_=>none
section
variable {Γ:Cx}{P:Program}{Q:Exit→Act→World→Prop}{E:Env}{H:List HE}{N:Nat}{o:Oper}{ops:Array Oper}{rest:List Oper}
theorem e0b {R:Nat→Prop}{W:World}{a:Act}{x:Operand}{d:Nat}{z:Int}(ha:RelA N R W E a)(h:c0G E (some x) d=some z): ∃k,a.eval x= .int k z:=by
 unfold c0G at h
 simp only at h
 split at h
 ·rename_i k z' hx
  cases h
  exact⟨k,(ha.ev hx).val_inv⟩
 ·cases h
theorem c0J {R:Nat→Prop}{W:World}{a:Act}{low high:Option Operand}{n cap:Nat}{l h:Int}(ha:RelA N R W E a)(hl:c0G E low 0=some l)(hh:c0G E high n=some h)(h0:0≤l∧l≤h∧h≤n)(hc:n≤cap):
  (Instr.sliceBounds true n cap (low.map a.eval) (high.map a.eval) none).run P W= .ok (l.toNat,h.toNat,cap) W:=by
 obtain⟨h1,h2,h3⟩:=h0
 have hhc:h≤(cap:Int):=by omega
 cases high with
 | none=>
  obtain rfl:(n:Int)=h:=by simpa[c0G]using hh
  cases low with
  |none=>
   obtain rfl:(0:Int)=l:=by simpa[c0G]using hl
   simp[Instr.sliceBounds]
  |some x=>
   obtain⟨k,hk⟩:=e0b ha hl
   simp[Instr.sliceBounds,Instr.sliceBound,hk,asIntOf,h1,h2]
 | some y=>
  obtain⟨k',hk'⟩:=e0b ha hh
  have h4:0≤h:=by omega
  cases low with
  |none=>
   obtain rfl:(0:Int)=l:=by simpa[c0G]using hl
   simp[Instr.sliceBounds,Instr.sliceBound,hk',asIntOf,h4,hhc]
  |some x=>
   obtain⟨k,hk⟩:=e0b ha hl
   have h5:l≤max h 0:=by omega
   simp[Instr.sliceBounds,Instr.sliceBound,hk,hk',asIntOf,h1,h4,hhc]
   omega
theorem G.freezePtr {X:Act→World→Prop}(i t:Nat){b T room:Nat}{xs:List AV}(hi:H[i]? =some (.blk b T room xs))(ht:a0t E t=some (.val (.pointer (some ⟨b,0,none⟩))))(k:G Γ ((t,.rp xs 0)::E) (H.eraseIdx i) X):G Γ E H X:=
 G.freezeBlk i hi [(t,.rp xs 0)] (fun p hp=>by
  obtain rfl:p=(t,.rp xs 0):=by simpa using hp
  exact .inl ⟨0,ht,rfl⟩) k
theorem G.freezeSl {X:Act→World→Prop}(i t:Nat){b T room n cap:Nat}{xs:List AV}(hi:H[i]? =some (.blk b T room xs))(ht:a0t E t=some (.val (.slice (some ⟨b,0,none⟩) n cap)))(hc:n≤cap∧cap≤maxLen)(k:G Γ ((t,.ro (Nat.beq n cap) n xs)::E) (H.eraseIdx i) X):G Γ E H X:=
 G.freezeBlk i hi [(t,.ro (Nat.beq n cap) n xs)] (fun p hp=>by
  obtain rfl:p=(t,.ro (Nat.beq n cap) n xs):=by simpa using hp
  exact .inr ⟨n,cap,ht,rfl,hc.1,hc.2⟩) k
theorem yc {X:Act→World→Prop}{b T room n cap:Nat}{xs:List AV}(i:Nat)(t:Nat)(k:G Γ ((t,.ro (Nat.beq n cap) n xs)::E) (H.eraseIdx i) X)(hi:H[i]? =some (.blk b T room xs):=by exact rfl)(ht:a0t E t=some (.val (.slice (some ⟨b,0,none⟩) n cap)):=by exact rfl)(hc:n≤cap∧cap≤maxLen:=by exact⟨Nat.le_refl _,by unfold maxLen;omega⟩):G Γ E H X:=G.freezeSl i t hi ht hc k
theorem t0P {v:AV}: ∀t∈([]:List Nat),a0t E t=some v:=fun _ h=>by cases h
theorem q0r {t:Nat}{r:List Nat}{v:AV}(h:a0t E t=some v)(hr: ∀t∈r,a0t E t=some v): ∀s∈t::r,a0t E s=some v:=fun s hs=>by
 rcases List.mem_cons.1 hs with rfl|hs
 ·exact h
 ·exact hr s hs
theorem O.sliceR {T:Nat}{x:Operand}{low high:Option Operand}{full:Bool}{n:Nat}{xs ys:List AV}{l h:Int}{U sz bs m:Nat}{zz:Value}[hs:TyS P T U sz bs zz](ho:o.op= .slice T x low high none)(hx:ev E x=some (.ro full n xs))(hl:c0G E low 0=some l)(hh:c0G E high n=some h)(h0:0≤l∧l≤h∧h≤n)
  (hm:h.toNat-l.toNat=m) (hy:(xs.drop (l.toNat*sz)).take (m*sz)=ys) (hys:m=0→ys= []):OpW P N o E H (Is (.ro false m ys)):= .of_run fun R a W h1 h2 ha=>by
 obtain⟨i,hi,hi2, -⟩:=hs.el
 have hv:=ha.ev hx
 generalize hu:a.eval x=u at*
 cases hv with
 |emp _ ad cap h3 h4=>
  have hb:=c0J (P:=P) (W:=W) (cap:=cap) ha hl hh h0 (Nat.zero_le _)
  obtain⟨g1,g2,g3⟩:=h0
  simp at g3
  obtain rfl:l=0:=by omega
  obtain rfl:h=0:=by omega
  simp at hm
  subst hm
  rw[hys rfl]
  refine⟨.slice (if cap=0 then ad else ad.map (·.add (0*sz))) 0 (cap-0),?_,.emp _ _ _ (fun h=>by cases h) (by omega)⟩
  simp[execOp,ho,hu,Instr.sliceAt,Instr.slice,run_underlying hs.ty,hb,sizeOf,typeInfo,hi,hi2]
 | ro _ _ _ b off cap us hb' hc hr h3 h4 h5=>
  have hb:=c0J (P:=P) (W:=W) (cap:=cap) ha hl hh h0 h3
  obtain⟨g1,g2,g3⟩:=h0
  have hlen:l.toNat≤h.toNat:=by omega
  have hhn:h.toNat≤n:=by omega
  refine⟨.slice (if cap=l.toNat then some ⟨b,off,none⟩else some ⟨b,off+l.toNat*sz,none⟩) (h.toNat-l.toNat) (cap-l.toNat),?_,?_⟩
  ·simp only[execOp,ho,hu,Instr.sliceAt,Instr.slice,run_underlying hs.ty,Sem.run_bind,Result.andThen_ok,hb,sizeOf,typeInfo,hi,hi2,run_program,Sem.run_pure,Option.map_none]
   split<;>simp[a0K]
  ·rw[hm]
   by_cases hz:cap=l.toNat
   ·rw[if_pos hz]
    have:m=0:=by omega
    subst this
    rw[hys rfl]
    exact .emp _ _ _ (fun h=>by cases h) (by omega)
   ·rw[if_neg hz]
    subst hy
    refine .ro _ _ _ b (off+l.toNat*sz) _ (fun j=>us (l.toNat*sz+j)) hb' (fun j hj=> ?_) (fun j hj=> ?_) (by omega) (by omega) (fun h=>by cases h)
    ·simp at hj
     rw[Nat.add_assoc]
     exact hc _ (by omega)
    ·simp only[List.getElem_take,List.getElem_drop]
     simp at hj
     exact hr _ (by omega)
theorem O.sliceTo {T:Nat}{x y:Operand}{full:Bool}{n k:Nat}{kk:IntKind}{z:Int}{xs ys:List AV}{U sz bs:Nat}{zz:Value}[hs:TyS P T U sz bs zz](ho:o.op= .slice T x none (some y) none)(hx:ev E x=some (.ro full n xs))(hy:ev E y=some (.val (.int kk z)))(hz:z=(k:Int))(hk:k≤n)(hys:xs.take (k*sz)=ys):
  OpW P N o E H (Is (.ro false k ys)):=by
 subst hz
 refine O.sliceR (l:=0) (h:=(k:Int)) ho hx rfl (by simp[c0G,hy]) ⟨by omega,by omega,by omega⟩ (by simp) (by simpa using hys) (fun h=> ?_)
 subst h;rw[←hys];simp
theorem O.sliceFrom {T:Nat}{x y:Operand}{full:Bool}{n k:Nat}{kk:IntKind}{z:Int}{xs ys:List AV}{U sz bs:Nat}{zz:Value}[hs:TyS P T U sz bs zz](ho:o.op= .slice T x (some y) none none)(hx:ev E x=some (.ro full n xs))(hy:ev E y=some (.val (.int kk z)))(hz:z=(k:Int))(hk:k≤n)(hl:xs.length=n*sz)(hys:xs.drop (k*sz)=ys):
  OpW P N o E H (Is (.ro false (n-k) ys)):=by
 subst hz
 have hlen:(xs.drop (k*sz)).length=(n-k)*sz:=by rw[List.length_drop,hl,Nat.sub_mul]
 refine O.sliceR (l:=(k:Int)) (h:=(n:Int)) (m:=n-k) ho hx (by simp[c0G,hy]) rfl ⟨by omega,by omega,by omega⟩ (by simp) ?_ (fun h=> ?_)
 ·simp only[Int.toNat_natCast]
  rw[List.take_of_length_le (by rw[hlen];exact Nat.le_refl _),hys]
 ·rw[←hys];exact List.eq_nil_of_length_eq_zero (by rw[hlen,h,Nat.zero_mul])
end
def Coe (a b:AV):Prop:= ∀R W u,RelV R W a u→RelV R W b u
def CoeL (a b:List AV):Prop:= ∀R W us,RelL R W a us→RelL R W b us
theorem Coe.rfl {a:AV}:Coe a a:=fun _ _ _ h=>h
theorem Coe.nil:Coe (.val (.slice none 0 0)) (.ro false 0 []):=fun _ _ _ h=>h.nilRo
theorem Coe.unfull {full:Bool}{n:Nat}{xs:List AV}:Coe (.ro full n xs) (.ro false n xs):=fun _ _ _ h=>h.unfull
theorem CoeL.nil:CoeL [] []:=fun _ _ _ h=>h
theorem CoeL.cons {a b:AV}{x y:List AV}(h:Coe a b)(hs:CoeL x y):CoeL (a::x) (b::y):=fun R W us hu=>by
 obtain⟨u,r,rfl,h1,h2⟩:=hu.uncons
 exact RelL.cons (h R W u h1) (hs R W r h2)
theorem CoeL.refl {a:List AV}:CoeL a a:=fun _ _ _ h=>h
theorem Coe.agg {x y:List AV}(h:CoeL x y):Coe (.agg x) (.agg y):=fun R W u hu=>by
 obtain⟨us,rfl,h1⟩:=hu.agg_inv
 exact(h R W us h1).toAgg
theorem wy {x y:List AV}(h:CoeL x y:=by(repeat(first|exact CoeL.nil|refine CoeL.cons Coe.rfl ?_|refine CoeL.cons Coe.nil ?_));done):Coe (.agg x) (.agg y):=Coe.agg h
theorem Sp.coe {P:Program}{f:FuncId}{args args':List AV}{H0:List HE}{Post:AV→List HE→Prop}(h:Sp P f args' H0 Post)(hc:CoeL args args'):Sp P f args H0 Post:=fun W R us h1 h2 h3 h4=>h W R us h1 h2 h3 (hc R W us h4)
section
variable {Γ:Cx}{P:Program}{Q:Exit→Act→World→Prop}{E:Env}{H:List HE}{N:Nat}{o:Oper}{ops:Array Oper}{rest:List Oper}
theorem O.callC {f:FuncId}{xs:List Operand}{ats:Array TypeId}{args args':List AV}{Post:AV→List HE→Prop}{fn:Func}(ho:o.op= .call {callee:= .value (.func f),args:=xs.toArray,argTypes:=ats})(hfn:P.funcs[f]? =some fn)(hn:(fn.name== "runtime.NumGoroutine")=false)(hb:fn.body.isNone=false)
  (hx:evs E xs=some args) (h:Sp P f args' [] Post) (hc:CoeL args args'):OpW P N o E H Post:=O.call ho hfn hn hb hx (h.coe hc)
theorem wg {f:FuncId}{xs:List Operand}{ats:Array TypeId}{args args':List AV}{Post:AV→List HE→Prop}{fn:Func}(ho:o.op= .call {callee:= .value (.func f),args:=xs.toArray,argTypes:=ats})(hfn:P.funcs[f]? =some fn)(hn:(fn.name== "runtime.NumGoroutine")=false)(hb:fn.body.isNone=false)(hx:evs E xs=some args)(h:Sp P f args' [] Post)(hc:CoeL args args':=by(repeat(first|exact CoeL.nil|refine CoeL.cons Coe.rfl ?_|refine CoeL.cons Coe.nil ?_|refine CoeL.cons (Coe.agg ?_) ?_));done):OpW P N o E H Post:=O.callC ho hfn hn hb hx h hc
theorem G.re {X:Act→World→Prop}(t:Nat)(b:AV)(ht:a0t E t=some b)(k:G Γ ((t,b)::E) H X):G Γ E H X:=fun R a' W hs ha=>k R a' W hs (ha.shadow (ha.slots t _ ht))
theorem G.coe {X:Act→World→Prop}(t:Nat){a b:AV}(ht:a0t E t=some a)(h:Coe a b)(k:G Γ ((t,b)::E) H X):G Γ E H X:=fun R a' W hs ha=>k R a' W hs (ha.shadow (h R W _ (ha.slots t _ ht)))
end
theorem m0k (v n:Int)(h:0<n):(if v.tmod n<0 then v.tmod n+n else v.tmod n)=v%n:=by
 have h1:=Int.tmod_add_mul_tdiv v n
 have h2:v.tmod n<n:=Int.tmod_lt_of_pos v h
 have h3: -n<v.tmod n:=by
  rcases Int.le_total 0 v with hv|hv
  ·have:=Int.tmod_nonneg n hv;omega
  ·have:=Int.lt_tmod_of_pos v h;omega
 split
 ·rename_i hlt
  have e:v=v.tmod n+n+n*(v.tdiv n-1):=by rw[Int.mul_sub];omega
  rw[e,Int.add_mul_emod_self_left,←e,Int.emod_eq_of_lt (by omega) (by omega)]
 ·have e:v=v.tmod n+n*(v.tdiv n):=by omega
  rw[e,Int.add_mul_emod_self_left,←e,Int.emod_eq_of_lt (by omega) (by omega)]
def u8 (x:Int):UInt8:=UInt8.ofNat (x%256).toNat
theorem c0d (x:Int):((u8 x).toNat:Int)=x%256:=by
 have h1:=Int.emod_nonneg x (show(256:Int)≠0 by omega)
 have h2:=Int.emod_lt_of_pos x (show(0:Int)<256 by omega)
 rw[u8,UInt8.toNat_ofNat_of_lt' (by simp[UInt8.size];omega)]
 omega
theorem c0Q {x:Int}:IntKind.u8.wrap x=((u8 x).toNat:Int):=by
 rw[c0d];rfl
section
variable {Γ:Cx}{P:Program}{Q:Exit→Act→World→Prop}{E:Env}{H:List HE}{N:Nat}{o:Oper}{ops:Array Oper}{rest:List Oper}
def IsM (v:AV)(e:HE):AV→List HE→Prop:=fun r H'=>r=v∧H'= [e]
theorem d0R: ∀{H:List HE} {i:Nat} {e:HE},H[i]? =some e→H.Perm (e::H.eraseIdx i)
 | [],i,e,h=>by simp at h
 |x::r,0,e,h=>by simp at h;subst h;exact List.Perm.refl _
 |x::r,i+1,e,h=>((d0R (H:=r) (i:=i) (by simpa using h)).cons x).trans (List.Perm.swap ..)
theorem h0s: ∀{H:List HE} {i:Nat} {e e':HE},H[i]? =some e→(e'::H.eraseIdx i).Perm (H.set i e')
 | [],i,e,e',h=>by simp at h
 |x::r,0,e,e',h=>List.Perm.refl _
 |x::r,i+1,e,e',h=>(List.Perm.swap ..).trans ((h0s (H:=r) (i:=i) (e':=e') (by simpa using h)).cons x)
theorem AO.perm {H':List HE}{l:List Oper}(hp:H.Perm H')(h:AO Γ P ops Q l E H'):AO Γ P ops Q l E H:=fun R a W hs ha=>h R a W (hs.perm hp.symm) ha
theorem AO.callM1 {f:FuncId}{d:Nat}{xs:List Operand}{ats:Array TypeId}{args:List AV}{i:Nat}{e e':HE}{v:AV}{H':List HE}{fn:Func}(ho:o.op= .call {callee:= .value (.func f),args:=xs.toArray,argTypes:=ats})(hgd:o.guard=none)(hfn:P.funcs[f]? =some fn)(hn:(fn.name== "runtime.NumGoroutine")=false)(hb:fn.body.isNone=false)
  (hx:evs E xs=some args) (hd:o.dst=some d) (hN:Nat.ble (d+1) Γ.N=true) (hi:H[i]? =some e) (h:Sp P f args [e] (IsM v e')) (hH:H.set i e'=H') (next:AO Γ P ops Q rest ((d,v)::E) H'):AO Γ P ops Q (o::rest) E H:=
 AO.callM (H0:= [e]) (H1:=H.eraseIdx i) ho hgd hfn hn hb hx hd (lB hN) (d0R hi) h (by
  rintro _ _ ⟨rfl,rfl⟩
  exact AO.perm (by rw[←hH];exact h0s hi) next)
theorem xM {f:FuncId}{d:Nat}{xs:List Operand}{ats:Array TypeId}{args:List AV}(i:Nat){e e':HE}{v:AV}{H':List HE}{fn:Func}(ho:o.op= .call {callee:= .value (.func f),args:=xs.toArray,argTypes:=ats})(hgd:o.guard=none)(hfn:P.funcs[f]? =some fn)(hn:(fn.name== "runtime.NumGoroutine")=false)(hb:fn.body.isNone=false)(hx:evs E xs=some args)(hd:o.dst=some d)(hN:Nat.ble (d+1) Γ.N=true)(hi:H[i]? =some e)(h:Sp P f args [e] (IsM v e'))(next:AO Γ P ops Q rest ((d,v)::E) H')(hH:H.set i e'=H':=by(dsimp only[List.set,cA,cN,List.take,List.drop];done)):AO Γ P ops Q (o::rest) E H:=AO.callM1 (i:=i) ho hgd hfn hn hb hx hd hN hi h hH next
theorem AO.callMG {f:FuncId}{d:Nat}{xs:List Operand}{ats:Array TypeId}{args:List AV}(i:Nat){e:HE}{Post:AV→List HE→Prop}{fn:Func}(ho:o.op= .call {callee:= .value (.func f),args:=xs.toArray,argTypes:=ats})(hgd:o.guard=none)(hfn:P.funcs[f]? =some fn)(hn:(fn.name== "runtime.NumGoroutine")=false)(hb:fn.body.isNone=false)
  (hx:evs E xs=some args) (hd:o.dst=some d) (hN:Nat.ble (d+1) Γ.N=true) (hi:H[i]? =some e) (h:Sp P f args [e] Post) (next: ∀r H',Post r H'→AO Γ P ops Q rest ((d,r)::E) (H'++H.eraseIdx i)):AO Γ P ops Q (o::rest) E H:=
 AO.callM (H0:= [e]) (H1:=H.eraseIdx i) ho hgd hfn hn hb hx hd (lB hN) (d0R hi) h next
theorem k0r {R:Nat→Prop}{W:World}{v:Value}{T sz n:Nat}{xs:List AV}(h:HE.ok R W (.row v T sz n xs)):RelV (fun b=>R b∨(HE.row v T sz n xs).foot b) W (.ro false n xs) v:=by
 obtain⟨us,hown,hr⟩:=h
 have hr':=hr.mono (R':=fun b=>R b∨(HE.row v T sz n xs).foot b) (fun _ h=> .inl h) (W':=W) (fun _ _=>rfl)
 rcases hown.2 with⟨rfl,rfl⟩|⟨g,cap,cur,rfl,hbg,hg,h1,h2,h3,h4⟩
 ·have:xs= []:=List.eq_nil_of_length_eq_zero (by rw[←hr.1,hown.1];simp)
  subst this
  exact .emp _ _ _ (fun h=>by cases h) (Nat.zero_le _)
 ·refine .ro false n xs g 0 cap (fun j=>us.getD j undef) (.inr rfl) (fun j hj=> ?_) (fun j hj=>hr'.2 j hj) h1 h2 (fun h=>by cases h)
  have hj':j<us.length:=by rw[hr.1];exact hj
  have:=hown.cells (g:=g) rfl j us[j] (by simp[hj'])
  rw[a0K]at this
  rw[this]
  simp[List.getD,hj']
inductive LendL (v:Value) (y:AV):List AV→List AV→Prop
 |nil:LendL v y [] []
 |same {a:AV} {r r':List AV}:LendL v y r r'→LendL v y (a::r) (a::r')
 |lend {r r':List AV}:LendL v y r r'→LendL v y (.val v::r) (y::r')
theorem LendL.rel {R R1:Nat→Prop}{W:World}{v:Value}{y:AV}(hR: ∀b,R b→R1 b)(hy:RelV R1 W y v){a a':List AV}(h:LendL v y a a'): ∀{us:List Value},RelL R W a us→RelL R1 W a' us:=by
 induction h with
 |nil=>intro us h;exact h.mono hR (fun _ _=>rfl)
 |same _ ih=>
  intro us h
  obtain⟨u,r,rfl,h1,h2⟩:=h.uncons
  exact RelL.cons (h1.mono hR (fun _ _=>rfl)) (ih h2)
 |lend _ ih=>
  intro us h
  obtain⟨u,r,rfl,h1,h2⟩:=h.uncons
  have:=h1.val_inv
  subst this
  exact RelL.cons hy (ih h2)
theorem O.callL {f:FuncId}{xs:List Operand}{ats:Array TypeId}{args args':List AV}{v c:Value}{T sz n:Nat}{rs:List AV}{fn:Func}(ho:o.op= .call {callee:= .value (.func f),args:=xs.toArray,argTypes:=ats})(hfn:P.funcs[f]? =some fn)(hn:(fn.name== "runtime.NumGoroutine")=false)(hb:fn.body.isNone=false)
  (hx:evs E xs=some args) (hm:HE.row v T sz n rs∈H) (h:Sp P f args' [] (Is (.val c))) (hl:LendL v (.ro false n rs) args args'):OpW P N o E H (Is (.val c)):=fun R a W h0 h2 h3 ha=>by
 have hR: ∀b,R b→R b∨(HE.row v T sz n rs).foot b:=fun _ h=> .inl h
 have hlt: ∀b,R b∨(HE.row v T sz n rs).foot b→b<W.heap.size:=by
  rintro b (hb|hb)
  ·exact h0 b hb
  ·exact HE.ok_lt (h2 _ hm) hb
 unfold Oper.wp
 rw[b0V ho hfn hn hb,List.map_toArray]
 have hc:=h W _ (xs.map a.eval) hlt (fun e he=>by cases he) .nil (hl.rel hR (k0r (h2 _ hm)) (ha.evs hx))
 refine Calls.mono hc ?_
 rintro e W' ⟨u,r,H',R',rfl,⟨rfl,rfl⟩,hs,hv⟩
 have p:=d0V hs hv hlt
 exact⟨u,.val c,[],R,rfl,⟨rfl,rfl⟩,p.ext,fun _ h=>h,fun _ h=> .inl h,by rw[hv.val_inv];exact .val _,fun _ he=>(by cases he),.nil⟩
theorem OpW.frz {n U room:Nat}{ys:List AV}(h:OpW P N o E H (a0W (fun b=> .val (.slice (some ⟨b,0,none⟩) n n)) U room ys))(hn:n≤maxLen):OpW P N o E H (Is (.ro false n ys)):=fun R a W h1 h2 h3 h4=>by
 refine Oper.wp_mono ?_ (h R a W h1 h2 h3 h4)
 rintro A' W' ⟨u,v,Hn,R',rfl,⟨b,rfl,rfl⟩,p⟩
 obtain⟨hok,hfo⟩:=p.ok _ (List.mem_cons_self ..)
 have hu:=p.val.val_inv
 subst hu
 refine⟨_,.ro false n ys,[],fun c=>R' c∨c=b,rfl,⟨rfl,rfl⟩,p.ext,fun c hc=> .inl (p.sub c hc),fun c hc=> ?_,?_,fun _ he=>(by cases he),.nil⟩
 ·rcases hc with hc|rfl
  ·exact p.new c hc
  ·exact .inr ⟨(hfo _ rfl).1,HE.ok_lt hok rfl⟩
 ·refine .ro false n ys b 0 n (fun j=>(W'.cell? ⟨b,0+j,none⟩).getD undef) (.inr rfl) (fun j hj=> ?_) (fun j hj=> ?_) (Nat.le_refl _) hn (fun h=>by cases h)
  ·obtain⟨u,hu,_⟩:=e0c hok (j:=j) (v:=ys[j]) (by simp[hj])
   rw[Nat.zero_add,hu];rfl
  ·obtain⟨u,hu,hr⟩:=e0c hok (j:=j) (v:=ys[j]) (by simp[hj])
   rw[Nat.zero_add,hu]
   exact hr.mono (fun _ h=> .inl h) (fun _ _=>rfl)
theorem yY {n U room:Nat}{ys:List AV}(h:OpW P N o E H (a0W (fun b=> .val (.slice (some ⟨b,0,none⟩) n n)) U room ys):=by exact(O.buildSlice rfl rfl rfl (by rfl) (by rfl) (by rfl) (by rfl)))(hn:n≤maxLen:=by(unfold maxLen;omega)):OpW P N o E H (Is (.ro false n ys)):=OpW.frz h hn
theorem vC {n U room:Nat}{ys:List AV}(h:OpW P N o E H (a0W (fun b=> .val (.slice (some ⟨b,0,none⟩) n n)) U room ys):=by exact(O.buildSliceF rfl rfl rfl (by rfl) (by rfl) (by rfl) (by rfl) (by rfl)))(hn:n≤maxLen:=by(unfold maxLen;omega)):OpW P N o E H (Is (.ro false n ys)):=OpW.frz h hn
theorem O.sliceMax {T:Nat}{x y y':Operand}{full:Bool}{n k:Nat}{kk kk':IntKind}{z z':Int}{xs ys:List AV}{U sz bs:Nat}{zz:Value}[hs:TyS P T U sz bs zz](ho:o.op= .slice T x none (some y) (some y'))(hx:ev E x=some (.ro full n xs))(hy:ev E y=some (.val (.int kk z)))(hy':ev E y'=some (.val (.int kk' z')))
  (hz:z=(k:Int)) (hz':z'=(k:Int)) (hk:k≤n) (hys:xs.take (k*sz)=ys):OpW P N o E H (Is (.ro true k ys)):= .of_run fun R a W h1 h2 ha=>by
 subst hz
 subst hz'
 obtain⟨i,hi,hi2, -⟩:=hs.el
 have hv:=ha.ev hx
 have e1:=(ha.ev hy).val_inv
 have e2:=(ha.ev hy').val_inv
 generalize hu:a.eval x=u at*
 have hb: ∀cap:Nat,k≤cap→(Instr.sliceBounds true n cap none (some (a.eval y)) (some (a.eval y'))).run P W= .ok (0,k,k) W:=fun cap hc=>by
  have h5:(k:Int)≤(cap:Int):=by omega
  simp[Instr.sliceBounds,Instr.sliceBound,e1,e2,asIntOf,h5]
 cases hv with
 |emp _ ad cap h3 h4=>
  obtain rfl:k=0:=by omega
  have hb:=hb cap (by omega)
  have:ys= []:=by rw[←hys];simp
  subst this
  refine⟨.slice (if(0:Nat)=0 then ad else ad.map (·.add (0*sz))) 0 0,?_,.emp _ _ _ (fun _=>rfl) (by omega)⟩
  simp[execOp,ho,hu,Instr.sliceAt,Instr.slice,run_underlying hs.ty,hb,sizeOf,typeInfo,hi,hi2]
 | ro _ _ _ b off cap us hb' hc hr h3 h4 h5=>
  have hb:=hb cap (by omega)
  refine⟨.slice (some ⟨b,off,none⟩) k k,?_,?_⟩
  ·simp only[execOp,ho,hu,Instr.sliceAt,Instr.slice,run_underlying hs.ty,Sem.run_bind,Result.andThen_ok,hb,sizeOf,typeInfo,hi,hi2,run_program,Sem.run_pure,Option.map_none,Option.map_some]
   split<;>simp[a0K]
  ·subst hys
   refine .ro _ _ _ b off _ us hb' (fun j hj=> ?_) (fun j hj=> ?_) (Nat.le_refl _) (by omega) (fun h=>rfl)
   ·simp at hj;exact hc _ (by omega)
   ·simp only[List.getElem_take]
    simp at hj
    exact hr _ (by omega)
theorem O.and_ {T T':Nat}{x y:Operand}{k:IntKind}{p q c:Int}(ho:o.op= .binOp .and T x y T')(hx:ev E x=some (.val (.int k p)))(hy:ev E y=some (.val (.int k q)))(hc:Go.bits .and k p q=c):OpW P N o E H (Is (.val (.int k c))):=
 O.binI ho hx hy fun W=>by simp[binOp,intBits_and,hc]
theorem O.or_ {T T':Nat}{x y:Operand}{k:IntKind}{p q c:Int}(ho:o.op= .binOp .or T x y T')(hx:ev E x=some (.val (.int k p)))(hy:ev E y=some (.val (.int k q)))(hc:Go.bits .or k p q=c):OpW P N o E H (Is (.val (.int k c))):=
 O.binI ho hx hy fun W=>by simp[binOp,intBits_or,hc]
theorem O.xor_ {T T':Nat}{x y:Operand}{k:IntKind}{p q c:Int}(ho:o.op= .binOp .xor T x y T')(hx:ev E x=some (.val (.int k p)))(hy:ev E y=some (.val (.int k q)))(hc:Go.bits .xor k p q=c):OpW P N o E H (Is (.val (.int k c))):=
 O.binI ho hx hy fun W=>by simp[binOp,intBits_xor,hc]
def c0I:List AV→Option (List Value)
 | []=>some []
 | .val v::r=>(c0I r).map (v:: ·)
 |_::_=>none
theorem g0x {R:Nat→Prop}{W:World}: ∀{xs:List AV} {us vs:List Value},c0I xs=some us→RelL R W xs vs→vs=us
 | [],us,vs,h,hr=>by
  cases h
  exact List.eq_nil_of_length_eq_zero (by simpa using hr.1)
 | x::xs,us,vs,h,hr=>by
  obtain⟨v,r,rfl,h1,h2⟩:=hr.uncons
  cases x with
  | val w=>
   simp only[c0I]at h
   cases hq:c0I xs with
   |none=>rw[hq]at h;cases h
   |some us'=>
    rw[hq]at h
    cases h
    rw[h1.val_inv,g0x hq h2]
  |_=>simp[c0I]at h
theorem AQ.retCT {fn:Func}{Post:AV→List HE→Prop}{t s T k b T' room:Nat}{q:AV}{xs ys:List AV}{H':List HE}[hg:TyG P T true k](hr:fn.results= #[.cell t T,.tmp s])(ht:a0t E t=some (.val (.pointer (some ⟨b,0,none⟩))))(hs':a0t E s=some q)(hm:HE.blk b T' room xs∈H)(hv:xs.take k=ys)(hk:ys.length=k)
  (hH: ∃H1,H1.Sublist H∧H'.Perm H1) (hp:Post (.tup [.agg ys,q]) H'):AQ Γ (FnQ Γ P fn Post) .ret E H:=fun R a W hs ha=>by
 obtain⟨H1,h1,h2⟩:=hH
 obtain⟨us,cs,hb,hsz,hts,hrl⟩:=hs.ok _ hm
 have hrl:=hrl.take k
 rw[hv]at hrl
 have hl:=b0G hg W b 0 (us.take k) (by rw[hrl.1,hk]) (fun i u hi=>by
  rw[cell_of_row W b (0+i) cs T' (0,0) hb]
  rw[List.getElem?_take]at hi
  split at hi
  ·rw[←hts,List.getElem?_take]at hi
   split at hi
   ·simpa using hi
   ·cases hi
  ·cases hi)
 have hv':=(ha.slots t _ ht).val_inv
 have hq:=ha.slots s _ hs'
 refine⟨ha.defers,.tuple #[.agg (us.take k).toArray,a.eval (.tmp s)],?_,_,_,H',R,rfl,hp,?_,RelL.toTup (us:= [.agg (us.take k).toArray,a.eval (.tmp s)]) (RelL.cons hrl.toAgg (RelL.cons hq RelL.nil))⟩
 ·have:a.tmps.getD t undef= .pointer (some ⟨b,0,none⟩):=hv'
  simp[results,hr,Act.eval]at*
  simp[this,asAddr,hl]
 ·have:=(hs.sub h1).perm h2
  exact⟨this.mods,this.rlt,this.rsub,this.rnew,this.ok,this.own,this.disj⟩
theorem zm {fn:Func}{Post:AV→List HE→Prop}{t s T k b T' room:Nat}{q:AV}{xs ys:List AV}{H':List HE}(hr:fn.results= #[.cell t T,.tmp s]:=by exact rfl)(hg:TyG P T true k:=by infer_instance)(ht:a0t E t=some (.val (.pointer (some ⟨b,0,none⟩))):=by exact rfl)(hs':a0t E s=some q:=by exact rfl)(hm:HE.blk b T' room xs∈H:=by repeat(first|exact List.Mem.head _|refine List.Mem.tail _ ?_))(hv:xs.take k=ys:=by(dsimp only[List.set,cA,cN,List.take,List.drop];done))(hk:ys.length=k:=by rfl)(hH: ∃H1,H1.Sublist H∧H'.Perm H1:=by exact nS)(hp:Post (.tup [.agg ys,q]) H':=by exact⟨rfl,rfl⟩):AQ Γ (FnQ Γ P fn Post) .ret E H:=AQ.retCT hr ht hs' hm hv hk hH hp
theorem zT {fn:Func}{Post:AV→List HE→Prop}{t s T k b T' room:Nat}{q:AV}{xs ys:List AV}{H':List HE}(hr:fn.results= #[.cell t T,.tmp s]:=by exact rfl)(hg:TyG P T true k:=by infer_instance)(ht:a0t E t=some (.val (.pointer (some ⟨b,0,none⟩))):=by exact rfl)(hs':a0t E s=some q:=by exact rfl)(hm:HE.blk b T' room xs∈H:=by repeat(exact List.Mem.head _))(hv:xs.take k=ys:=by(dsimp only[List.set,cA,cN,List.take,List.drop];done))(hk:ys.length=k:=by rfl)(hH: ∃H1,H1.Sublist H∧H'.Perm H1:=by exact nS)(hp:Post (.tup [.agg ys,q]) H':=by exact⟨rfl,rfl⟩):AQ Γ (FnQ Γ P fn Post) .ret E H:=AQ.retCT hr ht hs' hm hv hk hH hp
theorem vQ {fn:Func}{Post:AV→List HE→Prop}{t s T k b T' room:Nat}{q:AV}{xs ys:List AV}{H':List HE}(hr:fn.results= #[.cell t T,.tmp s]:=by exact rfl)(hg:TyG P T true k:=by infer_instance)(ht:a0t E t=some (.val (.pointer (some ⟨b,0,none⟩))):=by exact rfl)(hs':a0t E s=some q:=by exact rfl)(hm:HE.blk b T' room xs∈H:=by repeat(first|exact List.Mem.head _|refine List.Mem.tail _ ?_))(hv:xs.take k=ys:=by(dsimp only[List.set,List.append,cA,cN,a0r,a0q,a0w,a0d,a0n,AV.cells,List.map,List.map_cons,List.map_nil,List.take,List.drop,Nat.zero_add,Nat.add_zero,Nat.reduceAdd,Nat.reduceMul,Nat.zero_mul,Value.cells,List.toList_toArray,a0p,List.replicate,List.flatten,cP];done))(hk:ys.length=k:=by rfl)(hH: ∃H1,H1.Sublist H∧H'.Perm H1:=by exact nS)(hp:Post (.tup [.agg ys,q]) H':=by exact⟨rfl,rfl⟩):AQ Γ (FnQ Γ P fn Post) .ret E H:=AQ.retCT hr ht hs' hm hv hk hH hp
theorem a0A {H:List HE}: ∃H1,H1.Sublist H∧([]:List HE).Perm H1:=⟨[],List.nil_sublist _,.nil⟩
theorem a0v (i:Nat){e:HE}{r H:List HE}(h:H[i]? =some e)(hr: ∃H1,H1.Sublist (H.eraseIdx i)∧r.Perm H1): ∃H1,H1.Sublist H∧(e::r).Perm H1:=by
 obtain⟨H1,h1,h2⟩:=hr
 obtain⟨hlt,rfl⟩:=List.getElem?_eq_some_iff.1 h
 rw[List.eraseIdx_eq_take_drop_succ,List.sublist_append_iff]at h1
 obtain⟨A,B,rfl,hA,hB⟩:=h1
 refine⟨A++H[i]::B,?_,?_⟩
 ·have e:H=H.take i++H[i]::H.drop (i+1):=by rw[←List.drop_eq_getElem_cons hlt,List.take_append_drop]
  have h9:(A++H[i]::B).Sublist (H.take i++H[i]::H.drop (i+1)):=hA.append (hB.cons_cons _)
  rwa [←e]at h9
 ·exact(h2.cons _).trans (List.perm_middle.symm)
def e0I (K:Env)(I:Nat→Env→List HE→Prop):Nat→Env→List HE→Prop:=fun n E H=> ∃E1,I n E1 H∧E=E1++K
theorem h0J {K E1:Env}(h1: ∀p∈E1,a0t E p.1=some p.2)(h2: ∀p∈K,a0t E p.1=some p.2): ∀p∈E1++K,a0t E p.1=some p.2:=fun p hp=>by
 rcases List.mem_append.1 hp with hp|hp
 ·exact h1 p hp
 ·exact h2 p hp
theorem AW.loopK {c:Code}(K:Env)(I:Nat→Env→List HE→Prop)(n:Nat){E0:Env}{H0:List HE}(hI:I n E0 H0)(hK: ∀p∈K,a0t E p.1=some p.2)(hE: ∀p∈E0,a0t E p.1=some p.2)(hH: ∃H1,H1.Sublist H∧H0.Perm H1)
  (round: ∀n E1 H,I n E1 H→AW Γ P (d0b (e0I K I) n Γ Q) c (E1++K) H):AW Γ P Q (.loop c) E H:=
 AW.loop (e0I K I) n (E0:=E0++K) (H0:=H0) ⟨E0,hI,rfl⟩ (h0J hE hK) hH (by
  rintro n _ H ⟨E1,h,rfl⟩
  exact round n E1 H h)
theorem zh {c:Code}{E0:Env}{H0:List HE}(K:Env)(I:Nat→Env→List HE→Prop)(n:Nat)(hI:I n E0 H0)(round: ∀n E1 H,I n E1 H→AW Γ P (d0b (e0I K I) n Γ Q) c (E1++K) H)(hK: ∀p∈K,a0t E p.1=some p.2:=by repeat(first|exact a0j|refine a0i rfl ?_))(hE: ∀p∈E0,a0t E p.1=some p.2:=by repeat(first|exact a0j|refine a0i rfl ?_))(hH: ∃H1,H1.Sublist H∧H0.Perm H1:=by repeat(first|exact a0A|refine a0v 0 rfl ?_)):AW Γ P Q (.loop c) E H:=AW.loopK K I n hI hK hE hH round
theorem xK {c:Code}{E0:Env}{H0:List HE}(K:Env)(I:Nat→Env→List HE→Prop)(n:Nat)(hI:I n E0 H0)(round: ∀n E1 H,I n E1 H→AW Γ P (d0b (e0I K I) n Γ Q) c (E1++K) H)(hK: ∀p∈K,a0t E p.1=some p.2:=by repeat(first|exact a0j|refine a0i rfl ?_))(hE: ∀p∈E0,a0t E p.1=some p.2:=by repeat(first|exact a0j|refine a0i rfl ?_))(hH: ∃H1,H1.Sublist H∧H0.Perm H1:=by repeat(first|exact a0A|refine a0v 0 rfl ?_|refine a0v 1 rfl ?_)):AW Γ P Q (.loop c) E H:=AW.loopK K I n hI hK hE hH round
theorem vD {c:Code}{E0:Env}{H0:List HE}(K:Env)(I:Nat→Env→List HE→Prop)(n:Nat)(hI:I n E0 H0)(round: ∀n E1 H,I n E1 H→AW Γ P (d0b (e0I K I) n Γ Q) c (E1++K) H)(hK: ∀p∈K,a0t E p.1=some p.2:=by repeat(first|exact a0j|refine a0i rfl ?_))(hE: ∀p∈E0,a0t E p.1=some p.2:=by repeat(first|exact a0j|refine a0i rfl ?_))(hH: ∃H1,H1.Sublist H∧H0.Perm H1:=by repeat(exact a0A)):AW Γ P Q (.loop c) E H:=AW.loopK K I n hI hK hE hH round
theorem AQ.loopKN {K:Env}{I:Nat→Env→List HE→Prop}{n:Nat}(m:Nat)(E1:Env)(H0:List HE)(hm:m<n)(hI:I m E1 H0)(hK: ∀p∈K,a0t E p.1=some p.2)(hE: ∀p∈E1,a0t E p.1=some p.2)(hH: ∃H1,H1.Sublist H∧H0.Perm H1):
  AQ Γ (d0b (e0I K I) n Γ Q) .normal E H:=AQ.loopN m (E1++K) H0 hm ⟨E1,hI,rfl⟩ (h0J hE hK) hH
theorem zq {K:Env}{I:Nat→Env→List HE→Prop}{n:Nat}(m:Nat)(E1:Env)(H0:List HE)(hm:m<n)(hI:I m E1 H0)(hK: ∀p∈K,a0t E p.1=some p.2:=by repeat(first|exact a0j|refine a0i rfl ?_))(hE: ∀p∈E1,a0t E p.1=some p.2:=by repeat(first|exact a0j|refine a0i rfl ?_))(hH: ∃H1,H1.Sublist H∧H0.Perm H1:=by repeat(first|exact a0A|refine a0v 0 rfl ?_)):AQ Γ (d0b (e0I K I) n Γ Q) .normal E H:=AQ.loopKN m E1 H0 hm hI hK hE hH
theorem zJ {K:Env}{I:Nat→Env→List HE→Prop}{n:Nat}(m:Nat)(E1:Env)(H0:List HE)(hm:m<n)(hI:I m E1 H0)(hK: ∀p∈K,a0t E p.1=some p.2:=by repeat(first|exact a0j|refine a0i rfl ?_))(hE: ∀p∈E1,a0t E p.1=some p.2:=by repeat(first|exact a0j|refine a0i rfl ?_))(hH: ∃H1,H1.Sublist H∧H0.Perm H1:=by repeat(first|exact a0A|refine a0v 1 rfl ?_)):AQ Γ (d0b (e0I K I) n Γ Q) .normal E H:=AQ.loopKN m E1 H0 hm hI hK hE hH
theorem xC {K:Env}{I:Nat→Env→List HE→Prop}{n:Nat}(m:Nat)(E1:Env)(H0:List HE)(hm:m<n)(hI:I m E1 H0)(hK: ∀p∈K,a0t E p.1=some p.2:=by repeat(first|exact a0j|refine a0i rfl ?_))(hE: ∀p∈E1,a0t E p.1=some p.2:=by repeat(first|exact a0j|refine a0i rfl ?_))(hH: ∃H1,H1.Sublist H∧H0.Perm H1:=by repeat(first|exact a0A|refine a0v 0 rfl ?_|refine a0v 1 rfl ?_)):AQ Γ (d0b (e0I K I) n Γ Q) .normal E H:=AQ.loopKN m E1 H0 hm hI hK hE hH
theorem wj {K:Env}{I:Nat→Env→List HE→Prop}{n:Nat}(m:Nat)(E1:Env)(H0:List HE)(hm:m<n)(hI:I m E1 H0)(hK: ∀p∈K,a0t E p.1=some p.2:=by repeat(first|exact a0j|refine a0i rfl ?_))(hE: ∀p∈E1,a0t E p.1=some p.2:=by repeat(first|exact a0j|refine a0i rfl ?_))(hH: ∃H1,H1.Sublist H∧H0.Perm H1:=by repeat(first|exact a0A|refine a0v 0 rfl ?_|refine a0v 1 rfl ?_|refine a0v 3 rfl ?_)):AQ Γ (d0b (e0I K I) n Γ Q) .normal E H:=AQ.loopKN m E1 H0 hm hI hK hE hH
theorem wA {K:Env}{I:Nat→Env→List HE→Prop}{n:Nat}(m:Nat)(E1:Env)(H0:List HE)(hm:m<n)(hI:I m E1 H0)(hK: ∀p∈K,a0t E p.1=some p.2:=by repeat(first|exact a0j|refine a0i rfl ?_))(hE: ∀p∈E1,a0t E p.1=some p.2:=by repeat(first|exact a0j|refine a0i rfl ?_))(hH: ∃H1,H1.Sublist H∧H0.Perm H1:=by repeat(first|exact a0A|refine a0v 0 rfl ?_|refine a0v 2 rfl ?_)):AQ Γ (d0b (e0I K I) n Γ Q) .normal E H:=AQ.loopKN m E1 H0 hm hI hK hE hH
theorem wG {K:Env}{I:Nat→Env→List HE→Prop}{n:Nat}(m:Nat)(E1:Env)(H0:List HE)(hm:m<n)(hI:I m E1 H0)(hK: ∀p∈K,a0t E p.1=some p.2:=by repeat(exact a0j))(hE: ∀p∈E1,a0t E p.1=some p.2:=by repeat(first|exact a0j|refine a0i rfl ?_))(hH: ∃H1,H1.Sublist H∧H0.Perm H1:=by repeat(exact a0A)):AQ Γ (d0b (e0I K I) n Γ Q) .normal E H:=AQ.loopKN m E1 H0 hm hI hK hE hH
theorem vl {K:Env}{I:Nat→Env→List HE→Prop}{n:Nat}(m:Nat)(E1:Env)(H0:List HE)(hm:m<n)(hI:I m E1 H0)(hK: ∀p∈K,a0t E p.1=some p.2:=by repeat(first|exact a0j|refine a0i rfl ?_))(hE: ∀p∈E1,a0t E p.1=some p.2:=by repeat(first|exact a0j|refine a0i rfl ?_))(hH: ∃H1,H1.Sublist H∧H0.Perm H1:=by repeat(exact a0A)):AQ Γ (d0b (e0I K I) n Γ Q) .normal E H:=AQ.loopKN m E1 H0 hm hI hK hE hH
theorem b0L {R:Nat→Prop}{W:World}{a:Act}{low high:Option Operand}{n cap:Nat}{l h:Int}(ha:RelA N R W E a)(hl:c0G E low 0=some l)(hh:c0G E high n=some h)(h0:0≤l∧l≤h∧h≤cap):
  (Instr.sliceBounds true n cap (low.map a.eval) (high.map a.eval) none).run P W= .ok (l.toNat,h.toNat,cap) W:=by
 obtain⟨h1,h2,hhc⟩:=h0
 cases high with
 | none=>
  obtain rfl:(n:Int)=h:=by simpa[c0G]using hh
  cases low with
  |none=>
   obtain rfl:(0:Int)=l:=by simpa[c0G]using hl
   simp[Instr.sliceBounds]
  |some x=>
   obtain⟨k,hk⟩:=e0b ha hl
   simp[Instr.sliceBounds,Instr.sliceBound,hk,asIntOf,h1,h2]
 | some y=>
  obtain⟨k',hk'⟩:=e0b ha hh
  have h4:0≤h:=by omega
  cases low with
  |none=>
   obtain rfl:(0:Int)=l:=by simpa[c0G]using hl
   simp[Instr.sliceBounds,Instr.sliceBound,hk',asIntOf,h4,hhc]
  |some x=>
   obtain⟨k,hk⟩:=e0b ha hl
   have h5:l≤max h 0:=by omega
   simp[Instr.sliceBounds,Instr.sliceBound,hk,hk',asIntOf,h1,h4,hhc]
   omega
theorem O.sliceV {T:Nat}{x:Operand}{low high:Option Operand}{b off n c:Nat}{l h:Int}{U sz bs:Nat}{zz:Value}[hs:TyS P T U sz bs zz](ho:o.op= .slice T x low high none)(hx:ev E x=some (.val (.slice (some ⟨b,off,none⟩) n c)))(hl:c0G E low 0=some l)(hh:c0G E high n=some h)(h0:0≤l∧l≤h∧h≤c)
  (hc:l<c):OpW P N o E H (Is (.val (.slice (some ⟨b,off+l.toNat*sz,none⟩) (h.toNat-l.toNat) (c-l.toNat)))):= .of_run fun R a W h1 h2 ha=>by
 obtain⟨i,hi,hi2, -⟩:=hs.el
 have hb:=b0L (P:=P) (W:=W) (cap:=c) ha hl hh h0
 refine⟨_,?_,.val _⟩
 have hne: ¬c=l.toNat:=by omega
 simp only[execOp,ho,(ha.ev hx).val_inv,Instr.sliceAt,Instr.slice,run_underlying hs.ty,Sem.run_bind,Result.andThen_ok,hb,sizeOf,typeInfo,hi,hi2,run_program,Sem.run_pure,Option.map_none]
 simp[hne,a0K]
theorem wx {T:Nat}{x:Operand}{low high:Option Operand}{b off n c:Nat}{l h:Int}{U sz bs:Nat}{zz:Value}(ho:o.op= .slice T x low high none:=by exact rfl)(hs:TyS P T U sz bs zz:=by infer_instance)(hx:ev E x=some (.val (.slice (some ⟨b,off,none⟩) n c)):=by exact rfl)(hl:c0G E low 0=some l:=by exact rfl)(hh:c0G E high n=some h:=by exact rfl)(h0:0≤l∧l≤h∧h≤c:=by exact⟨by omega,by omega,by omega⟩)(hc:l<c:=by omega):OpW P N o E H (Is (.val (.slice (some ⟨b,off+l.toNat*sz,none⟩) (h.toNat-l.toNat) (c-l.toNat)))):=O.sliceV ho hx hl hh h0 hc
theorem O.sliceV0 {T:Nat}{x:Operand}{low high:Option Operand}{b off n c:Nat}{l h:Int}{U sz bs:Nat}{zz:Value}[hs:TyS P T U sz bs zz](ho:o.op= .slice T x low high none)(hx:ev E x=some (.val (.slice (some ⟨b,off,none⟩) n c)))(hl:c0G E low 0=some l)(hh:c0G E high n=some h)(h0:0≤l∧l≤h∧h≤c)
  (hc:h=l) (hcm:c≤maxLen):OpW P N o E H (Is (.ro false 0 [])):= .of_run fun R a W h1 h2 ha=>by
 obtain⟨i,hi,hi2, -⟩:=hs.el
 subst hc
 have hb:=b0L (P:=P) (W:=W) (cap:=c) ha hl hh h0
 refine⟨.slice (if c=h.toNat then some ⟨b,off,none⟩else some ⟨b,off+h.toNat*sz,none⟩) 0 (c-h.toNat),?_,.emp _ _ _ (fun h=>by cases h) (by omega)⟩
 simp only[execOp,ho,(ha.ev hx).val_inv,Instr.sliceAt,Instr.slice,run_underlying hs.ty,Sem.run_bind,Result.andThen_ok,hb,sizeOf,typeInfo,hi,hi2,run_program,Sem.run_pure,Option.map_none]
 split<;>simp[a0K]
theorem O.sliceLH {T:Nat}{x y y':Operand}{full:Bool}{n l h:Nat}{kk kk':IntKind}{z z':Int}{xs ys:List AV}{U sz bs:Nat}{zz:Value}[hs:TyS P T U sz bs zz](ho:o.op= .slice T x (some y) (some y') none)(hx:ev E x=some (.ro full n xs))(hy:ev E y=some (.val (.int kk z)))(hy':ev E y'=some (.val (.int kk' z')))
  (hz:z=(l:Int)) (hz':z'=(h:Int)) (hlh:l≤h) (hhn:h≤n) (hys:(xs.drop (l*sz)).take ((h-l)*sz)=ys):OpW P N o E H (Is (.ro false (h-l) ys)):=by
 subst hz
 subst hz'
 refine O.sliceR (l:=(l:Int)) (h:=(h:Int)) (m:=h-l) ho hx (by simp[c0G,hy]) (by simp[c0G,hy']) ⟨by omega,by omega,by omega⟩ (by simp) (by simpa using hys) (fun h0=> ?_)
 rw[←hys,h0];simp
theorem AO.appendCut {T T2 U k bs d:Nat}{z:Value}{s x:Operand}{w:AV}{i b n m cap:Nat}{xs ys zs:List AV}{H':Value→List HE}[hs:TyS P T U k bs z](ho:o.op= .call {callee:= .builtin .append,args:= #[s,x],argTypes:= #[T,T2]})(hgd:o.guard=none)(hd:o.dst=some d)(hN:Nat.ble (d+1) Γ.N=true)
  (hz:Nat.beq z.cells.size k=true) (hk:Nat.ble 1 k=true) (hv:ev E s=some (.val (.slice (some ⟨b,0,none⟩) n cap))) (hx:ev E x=some w) (hi:H[i]? =some (.blk b U (cap*k) xs)) (hnl:n*k≤xs.length) (hsrc:SrcA P T2 k H w m ys) (hone:ys.all AV.one=true) (hn:n+m≤maxLen) (hby:(n+m)*bs≤140737488355328) (hcap:n≤cap∧cap≤maxLen)
  (hzs:xs.take (n*k)++ys=zs) (hH: ∀v',H.set i (.row v' U k (n+m) zs)=H' v')
  (next: ∀v':Value,v'.oneCell'=true→AO Γ P ops Q rest ((d,.val v')::E) (H' v')):AO Γ P ops Q (o::rest) E H:=fun R a W hs' ha=>by
 have hmem:=List.mem_of_getElem? hi
 obtain⟨us0,cs,hb,hsz,ht,hr0⟩:=hs'.ok _ hmem
 have hr:=hr0.take (n*k)
 have hown:W.ownsRow 0 U k (.slice (some ⟨b,0,none⟩) n cap) n (us0.take (n*k)):=
  ⟨by rw[hr.1,List.length_take];omega,.inr ⟨b,cap,cs,rfl,Nat.zero_le _,hb,hcap.1,hcap.2,by omega,by rw[←ht,List.take_take];congr 1;omega⟩⟩
 obtain⟨news,h1,h2⟩:=hsrc.2 R W (a.eval x) hs'.ok (ha.ev hx)
 obtain⟨v',W',hrun,hown',hgr,hblk,h1c⟩:=c0k hs (Nat.eq_of_beq_eq_true hz) (lB hk) hown (h2 (h1.all_one hone)) hn hby o.type
 unfold wpList
 rw[if_pos (by unfold Region.wanted;rw[hgd])]
 refine .inl ?_
 unfold Oper.wp
 rw[d0E ho (by rw[(ha.ev hv).val_inv];exact hrun)]
 show wpList P ops Q rest (a.put o.dst v') W'
 rw[hd]
 have hm:Mods (fun c=>(HE.blk b U (cap*k) xs).foot c) W W':=Mods.grown (Mods.refl _ _) hgr fun c hc _=>by
  have:some b=some c:=hc
  cases this;rfl
 have hR: ∀c,R c→W'.heap[c]? =W.heap[c]? :=fun c hc=>hm.block c (hs'.rlt c hc) fun hh=>(hs'.own _ hmem c hh).2 hc
 have this:=next v' h1c R (a.put (some d) v') W'
 rw[←hH,←hzs]at this
 refine this (hs'.setEntry hi hm (fun c hc=> ?_) ⟨_,hown',(hr.app h1).mono (fun _ h=>h) hR⟩) ((ha.keep hR).put (lB hN) (.val _))
 rcases hblk with hb|hb
 ·rw[HE.foot,hb]at hc
  have:some b=some c:=hc
  cases this;exact .inl rfl
 ·rw[HE.foot,hb]at hc;cases hc;exact .inr (Nat.le_refl _)
theorem O.makeSlice {T U k bs : Nat} {z : Value} {x y : Operand} {n : Nat} {kl kc : IntKind} {p q : Int}[hs:TyS P T U k bs z](ho:o.op= .makeSlice T x y)(hx:ev E x=some (.val (.int kl p)))(hy:ev E y=some (.val (.int kc q)))(hp:p=(n:Int))(hq:q=(n:Int))(hn:n*bs≤140737488355328)(hn2:n≤maxLen)(hzk:Nat.beq z.cells.size k=true):
    OpW P N o E H (a0W (fun b=> .val (.slice (some ⟨b,0,none⟩) n n)) U (n*k) (a0p n z)):=fun R a W h0 h2 h3' ha=>by
  obtain⟨i,hi,hik,hib,hz⟩:=hs.el
  subst hp
  subst hq
  unfold maxLen at hn2
  have hr:(execOp a.eval o).run P W= .ok (.value (.slice (some ⟨W.heap.size,0,none⟩) n n)) (W.alloc (.cells (madeCells z.cells (n*k)) U)):=by
    simp only[execOp,ho,(ha.ev hx).val_inv,(ha.ev hy).val_inv]
    rw [Sem.run_bind, run_make (P := P) W T U i z hs.ty hi hz kl kc n n (by omega) (Int.le_refl _) (by rw[hib];have:((n*bs:Nat):Int)≤140737488355328:=by omega
                                                                                                       rw[Int.natCast_mul,Int.mul_comm]at this;omega) (by omega)]
    simp only[Int.toNat_natCast,hik]
    rfl
  unfold Oper.wp
  rw[hr]
  refine⟨_,_,_,R,rfl,⟨W.heap.size,rfl,rfl⟩,d0Q h0 U _ (n*k) (a0p n z) (size_madeCells _ _) ?_ (fun _ _=> .val _)⟩
  have e:(madeCells z.cells (n*k)).toList.map AV.val=a0p n z:=by
    unfold madeCells a0p
    rw[f0i z k (Nat.eq_of_beq_eq_true hzk) n,List.map_flatten,List.map_replicate]
  rw[←e,List.length_map,List.take_length]
  exact c0T R W _
theorem O.toBytes {S T U:Nat}{x:Operand}{s:ByteArray}{l:List UInt8}[hS:TyD P S .string][hT:TyD P T (.slice U)][hU:TyD P U (.int .u8)](ho:o.op= .convert S T x)(hx:ev E x=some (.val (.string s)))(hl:s.data.toList=l)(hm:l.length≤maxLen):
  OpW P N o E H (Is (roB l)):=fun R a W h0 h2 h3 ha=>by
 have hr:(execOp a.eval o).run P W= .ok (.value (.slice (some ⟨W.heap.size,0,none⟩) s.size (grownCap W s.size 0 U)))
   (W.drew.alloc (.cells (bytesRow s (grownCap W s.size 0 U)) U ((bytesRow s (grownCap W s.size 0 U)).size,(bytesRow s (grownCap W s.size 0 U)).size+1))):=by
  simp only[execOp,ho,(ha.ev hx).val_inv]
  rw[Sem.run_bind,run_bytes_of_string W S T U s hS.ax hT.ax hU.ax]
  rfl
 have hsz:s.size=l.length:=by rw[←hl];exact Array.length_toList.symm
 unfold Oper.wp
 rw[hr]
 have hE:Ext W (W.drew.alloc (.cells (bytesRow s (grownCap W s.size 0 U)) U ((bytesRow s (grownCap W s.size 0 U)).size,(bytesRow s (grownCap W s.size 0 U)).size+1))):=Mods.alloc (Mods.drew (Mods.refl _ _)) _
 have hnew:=heap_alloc_new W.drew (.cells (bytesRow s (grownCap W s.size 0 U)) U ((bytesRow s (grownCap W s.size 0 U)).size,(bytesRow s (grownCap W s.size 0 U)).size+1))
 refine⟨_,roB l,[],fun b=>R b∨b=W.heap.size,rfl,⟨rfl,rfl⟩,hE,fun _ h=> .inl h,?_,?_,fun _ he=>(by cases he),.nil⟩
 ·rintro b (hb|rfl)
  ·exact .inl hb
  ·refine .inr ⟨Nat.le_refl _,?_⟩
   have h9:W.drew.heap.size=W.heap.size:=rfl
   rw[h9]at hnew
   exact(Array.getElem?_eq_some_iff.1 hnew).1
 ·unfold roB
  rw[hsz]
  refine .ro false l.length (a0a l) W.heap.size 0 _ (fun j=> .int .u8 ((l.getD j 0).toNat:Int)) (.inr rfl) (fun j hj=> ?_) (fun j hj=> ?_) ?_ ?_ (fun h=>by cases h)
  ·have hj':j<l.length:=by simpa using hj
   have hj2:j<s.data.size:=by rw[←hl]at hj';simpa using hj'
   have hcell:(bytesRow s (grownCap W l.length 0 U))[j]? =some (.int .u8 ((l.getD j 0).toNat:Int)):=by
    rw[bytesRow_at s _ j hj2]
    subst hl
    simp[List.getD,Array.getElem?_eq_getElem hj2]
   have h9:W.drew.heap.size=W.heap.size:=rfl
   rw[h9]at hnew
   rw[Nat.zero_add]
   rw[hsz]at hnew
   simp only[World.cell?,hnew]
   simpa using hcell
  ·have hj':j<l.length:=by simpa using hj
   simp only[a0a,List.getElem_map,List.getD,List.getElem?_eq_getElem hj',Option.getD_some]
   exact .val _
  ·rw[←hsz];exact grownCap_ge ..
  ·exact grownCap_le_maxLen _ _ _ _ hm
end
section
variable {P:Program}{ops:Array Oper}{N:Nat}
theorem Oper.wp_put {o:Oper}{a:Act}{w:World}{K:Act→World→Prop}{Q:Exit→Act→World→Prop}(h:o.wp P a w K Q):o.wp P a w (fun A' W'=>K A' W'∧((∃u,A'=a.put o.dst u)∨A'.defers≠ [])) Q:=by
 unfold Oper.wp at h⊢
 cases hr:(execOp a.eval o).run P w with
 | ok n w'=>
  rw[hr]at h
  cases n with
  |value v=>exact⟨h,.inl ⟨v,rfl⟩⟩
  |skip=>exact⟨h,.inl ⟨_,rfl⟩⟩
  |defer d=>exact⟨h,.inr (by simp[Act.put];split<;>simp)⟩
  |enter f args=>
   refine Calls.mono h ?_
   intro e w'' he
   cases e with
   |returned v=>exact⟨he,.inl ⟨v,rfl⟩⟩
   |_=>exact he
  |row r args=>
   refine Rows.mono h ?_
   intro v w'' he
   exact⟨he,.inl ⟨v,rfl⟩⟩
  |_=>exact h
 |halt x w'=>
  rw[hr]at h
  cases x<;>exact h
theorem b0e {E:Env}{d:Nat}{v:AV}: ∀{ts:List Nat},d∉ts→rst ((d,v)::E) ts=rst E ts
 | [],_=>rfl
 | t::r,h=>by
  simp only[List.mem_cons,not_or]at h
  have hb:Nat.beq d t=false:=by
   cases hb:Nat.beq d t with
   |false=>rfl
   |true=>exact absurd (Nat.eq_of_beq_eq_true hb) h.1
  have hl:a0t ((d,v)::E) t=a0t E t:=by simp only[a0t,hb];rfl
  rw[rst,rst,hl,b0e h.2]
theorem a0L {E:Env}{d t:Nat}{v:AV}(h:d≠t):a0t ((d,v)::E) t=a0t E t:=by
 have hb:Nat.beq d t=false:=by
  cases hb:Nat.beq d t with
  |false=>rfl
  |true=>exact absurd (Nat.eq_of_beq_eq_true hb) h
 simp only[a0t,hb];rfl
theorem b0p {E:Env}{d:Nat}{v:AV}:a0t ((d,v)::E) d=some v:=by simp[a0t]
def QS (Γ:Cx)(d:Option Nat)(S:AV→List HE→Prop):Exit→Act→World→Prop:=fun x a W=>
 match x with
 | .normal=>a.defers= []∧ ∃v H' R',S v H'∧RelS Γ R' H' W∧ ∀t,d=some t→RelV R' W v (a.eval (.tmp t))
 |_=>False
def a0z:Option Nat→AV→Env→Env
 |some d,v,E=>(d,v)::E
 |none,_,E=>E
def AM (P:Program)(N:Nat)(ops:Array Oper)(Hs:List HE)(K:Env→List HE→Prop):List (Nat×Bool)→Env→List HE→Prop
 | [],E,H=>K E H
 |(i,true)::r,E,H=> ∃o,ops[i]? =some o∧ ∀w0 R0,AO ⟨w0,a0D H,R0,N⟩ P ops (QS ⟨w0,a0D H,R0,N⟩ o.dst (fun v H'=>AM P N ops Hs K r (a0z o.dst v E) H')) [o] (rst E (o.looksAt ops)) H
 |(i,false)::r,E,H=> ∃o d v,ops[i]? =some o∧o.dst=some d∧d<N∧OpF P N ops o (rst E (o.looksAt ops)) Hs (Is v)∧AM P N ops Hs K r ((d,v)::E) H
def e0u (ops:Array Oper)(an:List (List Nat))(i:Nat)(b:Bool)(j:Nat)(c:Bool):Bool:=
 match ops[i]?,ops[j]?with
 | some oi,some oj=>
  let waits:=oj.after.any fun e=>Region.binds .any e&&e.on==i
  let anc:=(an.getD j []).contains i
  (i !=j)&&(!b||anc)&&
  (match oj.dst with
   |some d=>if c then(!((oi.looksAt ops).contains d||oi.dst==some d))||anc else !(oi.looksAt ops).contains d&&oi.dst !=some d
   |none=>c)&&
  (match oi.dst with
   |some d=> !(oj.looksAt ops).contains d||waits
   |none=>true)
 |_,_=>false
def a0Z (ops:Array Oper)(an:List (List Nat)):List (Nat×Bool)→Bool
 | []=>true
 |(i,b)::r=>(b||(match ops[i]?with|some o=>(match o.dst with|some d=> !(o.looksAt ops).contains d|none=>false)|none=>false))&&r.all (fun q=>e0u ops an i b q.1 q.2)&&a0Z ops an r
def r0E (ops:Array Oper)(ord:List (Nat×Bool)):Bool:=
 ((List.range ops.size).all fun i=>(ord.map Prod.fst).contains i)&&(ord.all fun q=>decide (q.1<ops.size))&&
 ((List.range ops.size).all fun i=>(ops[i]?).all fun o=>o.after.all fun e=> !Region.binds .any e||decide (e.on<i))&&a0Z ops (c0M ops.toList []) ord
theorem a0l {an:List (List Nat)}: ∀{pre r:List (Nat×Bool)},a0Z ops an (pre++r)=true→a0Z ops an r=true∧ ∀q∈pre,∀s∈r,e0u ops an q.1 q.2 s.1 s.2=true
 | [],r,h=>⟨h,fun q hq=>by cases hq⟩
 |(i,b)::pre,r,h=>by
  rw[cA,a0Z]at h
  simp only[Bool.and_eq_true,List.all_eq_true]at h
  obtain⟨h1,h2⟩:=a0l h.2
  refine⟨h1,fun q hq s hs=> ?_⟩
  rcases List.mem_cons.1 hq with rfl|hq
  ·exact h.1.2 s (List.mem_append_right _ hs)
  ·exact h2 q hq s hs
structure PairOk (ops:Array Oper) (an:List (List Nat)) (i:Nat) (b:Bool) (oi:Oper) (j:Nat) (c:Bool) (oj:Oper):Prop where
 ne:i≠j
 main:b=true→i∈an.getD j []
 flt:c=false→ ∃d,oj.dst=some d∧d∉oi.looksAt ops∧oi.dst≠some d
 mn:c=true→ ∀d,oj.dst=some d→(d∈oi.looksAt ops∨oi.dst=some d)→i∈an.getD j []
 reads: ∀d,oi.dst=some d→d∈oj.looksAt ops→ ∃e∈oj.after,Region.binds .any e=true∧e.on=i
theorem b0D {an:List (List Nat)}{i j:Nat}{b c:Bool}{oi oj:Oper}(h:e0u ops an i b j c=true)(hi:ops[i]? =some oi)(hj:ops[j]? =some oj):PairOk ops an i b oi j c oj:=by
 unfold e0u at h
 rw[hi,hj]at h
 simp only[Bool.and_eq_true,bne_iff_ne,ne_eq]at h
 obtain⟨⟨⟨h1,h2⟩,h3⟩,h4⟩:=h
 refine⟨h1,fun hb=> ?_,fun hc=> ?_,fun hc d hd hm=> ?_,fun d hd hm=> ?_⟩
 ·subst hb;simpa using h2
 ·subst hc
  cases hd:oj.dst with
  |none=>rw[hd]at h3;cases h3
  |some d=>
   rw[hd]at h3
   simp at h3
   exact⟨d,rfl,h3.1,h3.2⟩
 ·subst hc
  rw[hd]at h3
  simp at h3
  rcases h3 with h3|h3
  ·rcases hm with hm|hm
   ·exact absurd hm h3.1
   ·exact absurd hm h3.2
  ·exact h3
 ·rw[hd]at h4
  simp only[Bool.or_eq_true,Bool.not_eq_true',List.contains_eq_mem,decide_eq_false_iff_not]at h4
  rcases h4 with h4|h4
  ·exact absurd hm h4
  ·obtain⟨x,hx,hx2⟩:=g0h h4
   simp only[Bool.and_eq_true,beq_iff_eq]at hx2
   exact⟨x,hx,hx2.1,hx2.2⟩
theorem RelS.part {Γ:Cx}{R R':Nat→Prop}{Hm Hs H':List HE}{W W':World}(hs0:RelS Γ R (Hm++Hs) W)(hs':RelS ⟨W,a0D Hm,R,N⟩ R' H' W'):RelS Γ R' (H'++Hs) W'∧ ∀b,R b→W'.heap[b]? =W.heap[b]? :=by
 have hS0: ∀b,a0D Hm b→Γ.w0.heap.size≤b∨Γ.S b:=fun b ⟨e,he,hb⟩=>(hs0.own e (List.mem_append_left _ he) b hb).1
 have hnR: ∀b,a0D Hm b→ ¬R b:=fun b ⟨e,he,hb⟩=>(hs0.own e (List.mem_append_left _ he) b hb).2
 have h1lt: ∀e∈Hs,∀b,e.foot b→b<W.heap.size:=fun e he b hb=>HE.ok_lt (hs0.ok e (List.mem_append_right _ he)) hb
 have h10: ∀e∈Hs,∀b,e.foot b→ ¬a0D Hm b:=fun e he b hb ⟨f,hf,hb'⟩=>(List.pairwise_append.1 hs0.disj).2.2 f hf e he b hb' hb
 have hR: ∀b,R b→W'.heap[b]? =W.heap[b]? :=fun b hb=>hs'.mods.block b (hs0.rlt b hb) fun hh=>hnR b hh hb
 refine⟨⟨Mods.then hs0.mods hs'.mods fun b hb hh=> ?_,hs'.rlt,fun b hb=>hs'.rsub b (hs0.rsub b hb),fun b hb=> ?_,?_,?_,?_⟩,hR⟩
 ·rcases hS0 b hh with h|h
  ·omega
  ·exact h
 ·rcases hs'.rnew b hb with h|h|h
  ·exact hs0.rnew b h
  ·exact .inr (.inl (Nat.le_trans hs0.mods.size h))
  ·exact .inr (hS0 b h)
 ·intro e he
  rcases List.mem_append.1 he with he|he
  ·exact hs'.ok e he
  ·exact HE.ok_mono hs'.rsub hR hs'.mods.size (fun b hb=>hs'.mods.block b (h1lt e he b hb) (h10 e he b hb)) (hs0.ok e (List.mem_append_right _ he))
 ·intro e he b hb
  rcases List.mem_append.1 he with he|he
  ·obtain⟨h2,h3⟩:=hs'.own e he b hb
   refine⟨?_,h3⟩
   rcases h2 with h2|h2
   ·exact .inl (Nat.le_trans hs0.mods.size h2)
   ·exact hS0 b h2
  ·refine⟨(hs0.own e (List.mem_append_right _ he) b hb).1,fun hr=> ?_⟩
   rcases hs'.rnew b hr with h|h|h
   ·exact(hs0.own e (List.mem_append_right _ he) b hb).2 h
   ·have h5:=h1lt e he b hb
    exact absurd h (by simpa using h5)
   ·exact h10 e he b hb h
 ·rw[List.pairwise_append]
  refine⟨hs'.disj,(List.pairwise_append.1 hs0.disj).2.1,fun e he f hf b hb hb'=> ?_⟩
  rcases(hs'.own e he b hb).1 with h|h
  ·have h5:=h1lt f hf b hb'
   exact absurd h (by simpa using h5)
  ·exact h10 f hf b hb' h
structure MI (P:Program) (Γ:Cx) (ops:Array Oper) (Hs:List HE) (K:Env→List HE→Prop) (ord:List (Nat×Bool)) (listed:Array Bool) (A:Act) (W:World) (pre ms:List (Nat×Bool)) (Pd:List Nat) (E:Env) (H:List HE) (R:Nat→Prop):Prop where
 size:listed.size=ops.size
 closed:c0u ops listed
 part: ∀i,i<ops.size→(listed.getD i false=false↔i∈Pd∨i∈ms.map Prod.fst)
 ord:ord=pre++ms
 pdp: ∀i∈Pd,(i,false)∈pre
 am:AM P Γ.N ops Hs K ms E H
 pend: ∀i∈Pd,∃o d v,ops[i]? =some o∧o.dst=some d∧d<Γ.N∧a0t E d=some v∧OpF P Γ.N ops o (rst E (o.looksAt ops)) Hs (Is v)
 rels:RelS Γ R (H++Hs) W
 defers:A.defers= []
 tmps:A.tmps.size=Γ.N
 act: ∀t v,a0t E t=some v→(∀i∈Pd,∀o,ops[i]? =some o→o.dst≠some t)→RelV R W v (A.eval (.tmp t))
variable {Γ:Cx}{Hs:List HE}{K:Env→List HE→Prop}{ord:List (Nat×Bool)}
theorem MI.absorb {listed:Array Bool}{A:Act}{W:World}{R:Nat→Prop}(hok:a0Z ops (c0M ops.toList []) ord=true): ∀(ms pre:List (Nat×Bool)) (Pd:List Nat) (E:Env) (H:List HE),MI P Γ ops Hs K ord listed A W pre ms Pd E H R→
  ∃pre' ms' Pd' E',MI P Γ ops Hs K ord listed A W pre' ms' Pd' E' H R∧(ms'= []∨ ∃m r,ms'=(m,true)::r)
 | [],pre,Pd,E,H,h=>⟨pre,[],Pd,E,h,.inl rfl⟩
 |(m,true)::r,pre,Pd,E,H,h=>⟨pre,_,Pd,E,h,.inr ⟨m,r,rfl⟩⟩
 | (j,false)::r,pre,Pd,E,H,h=>by
  obtain⟨o,d,v,ho,hd,hN,hop,ham⟩:=h.am
  have hord:=h.ord
  have hq:=a0l (pre:=pre) (r:=(j,false)::r) (by rw[←hord];exact hok)
  have hself:d∉o.looksAt ops:=by
   have:=hq.1
   rw[a0Z]at this
   simp only[Bool.and_eq_true,ho,hd,Bool.false_or]at this
   simpa using this.1.1
  have hp: ∀i∈Pd,∀oi,ops[i]? =some oi→d∉oi.looksAt ops∧oi.dst≠some d:=fun i hi oi hoi=>by
   have:=b0D (hq.2 _ (h.pdp i hi) (j,false) (List.mem_cons_self ..)) hoi ho
   obtain⟨d',h1,h2,h3⟩:=this.flt rfl
   rw[hd]at h1
   cases h1
   exact⟨h2,h3⟩
  refine MI.absorb hok r (pre++[(j,false)]) (j::Pd) ((d,v)::E) H ⟨h.size,h.closed,fun i hi=> ?_,by rw[hord];simp,fun i hi=> ?_,ham,fun i hi=> ?_,h.rels,h.defers,h.tmps,fun t x ht hpd=> ?_⟩
  ·rw[h.part i hi]
   simp only[List.map_cons,List.mem_cons]
   constructor
   ·rintro(h|h|h)
    ·exact .inl (.inr h)
    ·exact .inl (.inl h)
    ·exact .inr h
   ·rintro((h|h)|h)
    ·exact .inr (.inl h)
    ·exact .inl h
    ·exact .inr (.inr h)
  ·rcases List.mem_cons.1 hi with rfl|hi
   ·simp
   ·exact List.mem_append_left _ (h.pdp i hi)
  ·rcases List.mem_cons.1 hi with rfl|hi
   ·exact⟨o,d,v,ho,hd,hN,b0p,by rw[b0e hself];exact hop⟩
   ·obtain⟨oi,di,vi,h1,h2,h3,h4,h5⟩:=h.pend i hi
    obtain⟨h6,h7⟩:=hp i hi oi h1
    refine⟨oi,di,vi,h1,h2,h3,?_,by rw[b0e h6];exact h5⟩
    rw[a0L (fun e=>h7 (by rw[h2,e]))];exact h4
  ·have hne:d≠t:=fun e=>hpd j (List.mem_cons_self ..) o ho (by rw[hd,e])
   rw[a0L hne]at ht
   exact h.act t x ht fun i hi=>hpd i (List.mem_cons_of_mem _ hi)
theorem MI.reads {listed:Array Bool}{A:Act}{W:World}{R:Nat→Prop}{pre ms:List (Nat×Bool)}{Pd:List Nat}{E:Env}{H:List HE}(hok:a0Z ops (c0M ops.toList []) ord=true)(h:MI P Γ ops Hs K ord listed A W pre ms Pd E H R)
  {i:Nat} {b:Bool} {o:Oper} (ho:ops[i]? =some o) (hdeps: ∀e∈o.after,Region.binds .any e=true→listed.getD e.on false=true) (hi:(i,b)∈pre∧i∈Pd∧b=false∨ ∃r,ms=(i,b)::r):RelA Γ.N R W (rst E (o.looksAt ops)) A:=by
 refine⟨h.defers,h.tmps,fun t v ht=> ?_⟩
 obtain⟨htl,ht⟩:=c0E ht
 refine h.act t v ht fun k hk ok hok' hdk=> ?_
 have hkp:=h.pdp k hk
 have hkf:listed.getD k false=false:=(h.part k (Array.getElem?_eq_some_iff.1 hok').1).2 (.inl hk)
 have direct:e0u ops (c0M ops.toList []) k false i b=true→False:=fun hp=>by
  obtain⟨e,he,hb,hon⟩:=(b0D hp hok' ho).reads t hdk htl
  have:=hdeps e he hb
  rw[hon,hkf]at this;cases this
 rcases hi with⟨hip,hiP,rfl⟩|⟨r,hms⟩
 ·
  obtain⟨p1,p2,hp12⟩:=List.append_of_mem hkp
  have hord:=h.ord
  rw[hp12,List.append_assoc]at hord
  rw[hp12]at hip
  rcases List.mem_append.1 hip with hip|hip
  ·
   have hq:=a0l (pre:=p1) (by rw[←hord];exact hok)
   have:=b0D (hq.2 _ hip (k,false) (List.mem_cons_self ..)) ho hok'
   obtain⟨d',h1,h2, -⟩:=this.flt rfl
   rw[hdk]at h1;cases h1
   exact h2 htl
  ·rcases List.mem_cons.1 hip with he|hip
   ·cases he
    have hq:=(a0l (pre:=p1) (by rw[←hord];exact hok)).1
    rw[cA,a0Z]at hq
    simp only[Bool.and_eq_true]at hq
    obtain rfl:o=ok:=by rw[ho]at hok';exact Option.some.inj hok'
    have:=hq.1.1
    rw[ho]at this
    simp only[hdk,Bool.false_or]at this
    simp at this
    exact this htl
   ·rw[show p1++((k,false)::p2++ms)=(p1++[(k,false)])++(p2++ms) by simp]at hord
    have hq:=a0l (pre:=p1++[(k,false)]) (by rw[←hord];exact hok)
    exact direct (hq.2 (k,false) (by simp) (i,false) (List.mem_append_left _ hip))
 ·have hq:=a0l (pre:=pre) (r:=ms) (by rw[←h.ord];exact hok)
  exact direct (hq.2 _ hkp (i,b) (by rw[hms];exact List.mem_cons_self ..))
def c0i (E:Env)(H Hm Hs:List HE):Prop:=H.Perm (Hm++Hs)
theorem a0h {E:Env}{H:List HE}:c0i E H [] H:=List.Perm.refl _
theorem a0Y (i:Nat){E:Env}{H Hm Hs:List HE}{e:HE}(h:H[i]? =some e)(hr:c0i E (H.eraseIdx i) Hm Hs):c0i E H (e::Hm) Hs:=(d0R h).trans (List.Perm.cons e hr)
theorem c0x (t i:Nat){E:Env}{H Hm Hs:List HE}{v:Value}{T sz n:Nat}{xs:List AV}(hl:a0t E t=some (.val v))(h:H[i]? =some (.row v T sz n xs))(hr:c0i E (H.eraseIdx i) Hm Hs):c0i E H (.row v T sz n xs::Hm) Hs:=a0Y i h hr
theorem a0C (t i:Nat){E:Env}{H Hm Hs:List HE}{b o T room:Nat}{xs:List AV}(hl:a0t E t=some (.val (.pointer (some ⟨b,o,none⟩))))(h:H[i]? =some (.blk b T room xs))(hr:c0i E (H.eraseIdx i) Hm Hs):c0i E H (.blk b T room xs::Hm) Hs:=a0Y i h hr
theorem AW.regionM {Q:Exit→Act→World→Prop}{E:Env}{H:List HE}{id:Nat}{l:List Oper}(ord:List (Nat×Bool)){Hm Hs:List HE}(hm:P.follows .mixedOrders=true)(hok:r0E l.toArray ord=true)(hH:c0i E H Hm Hs)
  (h:AM P Γ.N l.toArray Hs (fun E' H'=>AQ Γ Q .normal E' (H'++Hs)) ord E Hm):AW Γ P Q (.region id l.toArray true) E H:=fun R a W hs0 ha0=>by
 obtain⟨ops,hops⟩: ∃ops,ops=l.toArray:=⟨_,rfl⟩
 rw[←hops]at h hok
 simp only[r0E,Bool.and_eq_true,List.all_eq_true,List.mem_range]at hok
 obtain⟨⟨⟨hall,hlt⟩,hbk⟩,hpairs⟩:=hok
 have hback: ∀i o,ops[i]? =some o→ ∀e∈o.after,Region.binds .any e=true→e.on<i:=fun i o ho e he hb=>by
  have hi:i<ops.size:=(Array.getElem?_eq_some_iff.1 ho).1
  have:=hbk i hi
  rw[ho]at this
  simp only[Option.all_some]at this
  have:=Array.all_eq_true_iff_forall_mem.1 this e he
  simpa[hb]using this
 have main: ∀(fuel:Nat) (listed:Array Bool) (A:Act) (W:World) (pre ms:List (Nat×Bool)) (Pd:List Nat) (E:Env) (H:List HE) (R:Nat→Prop),fuel=listed.toList.count false→
   MI P Γ ops Hs (fun E' H'=>AQ Γ Q .normal E' (H'++Hs)) ord listed A W pre ms Pd E H R→(ms= []∨ ∃m r,ms=(m,true)::r)→wpAny P .any ops Q fuel listed A W:=by
  intro fuel
  induction fuel with
  | zero=>
   intro listed A W pre ms Pd E H R hc hI hhd
   have hlist: ∀i,i<ops.size→listed.getD i false=true:=by
    intro i hi
    have hi':i<listed.size:=by rw[hI.size];exact hi
    cases hb:listed.getD i false with
    |true=>rfl
    | false=>
     exfalso
     have hm:false∈listed.toList:=by
      rw[←hb];simp[Array.getD,hi']
     have:=List.count_pos_iff.2 hm
     omega
   have hin: ∀i b,(i,b)∈ord→i<ops.size:=fun i b hib=>by have:=hlt _ hib;simpa using this
   have hms:ms= []:=by
    rcases hhd with h|⟨m,r,h⟩
    ·exact h
    ·have h1:=hin m true (by rw[hI.ord,h];simp)
     have:=(hI.part m h1).2 (.inr (by rw[h];simp))
     rw[hlist m h1]at this;cases this
   have hPd:Pd= []:=by
    rw[List.eq_nil_iff_forall_not_mem]
    intro i hi
    have h1:=hin i false (by rw[hI.ord];exact List.mem_append_left _ (hI.pdp i hi))
    have:=(hI.part i h1).2 (.inl hi)
    rw[hlist i h1]at this;cases this
   subst hms
   subst hPd
   refine⟨?_,hI.am R A W hI.rels ⟨hI.defers,hI.tmps,fun t v ht=>hI.act t v ht fun i hi=>(by cases hi)⟩⟩
   rw[List.eq_nil_iff_forall_not_mem]
   intro i hi
   obtain⟨h0,o,ho,_⟩:=mem_ready.1 hi
   have hi':i<ops.size:=(Array.getElem?_eq_some_iff.1 ho).1
   have:=hlist i hi'
   rw[←b0q (by rw[hI.size];exact hi')]at this
   rw[this]at h0;cases h0
  | succ fuel ih=>
   intro listed A W pre ms Pd E H R hc hI hhd
   have hne: ∃i,i∈Region.ready .any ops listed:=by
    have hex: ∃i,i<ops.size∧listed.getD i false=false:=by
     have hpos:0<listed.toList.count false:=by omega
     obtain⟨i,hi,hf⟩:=List.getElem_of_mem (List.count_pos_iff.1 hpos)
     have hi':i<listed.size:=by simpa using hi
     exact⟨i,by rw[←hI.size];exact hi',by simpa[Array.getD,hi']using hf⟩
    obtain⟨i,⟨hi,hf⟩,hmin⟩: ∃i,(i<ops.size∧listed.getD i false=false)∧ ∀j,j<i→ ¬(j<ops.size∧listed.getD j false=false):=by
     obtain⟨i,h⟩:=hex
     exact p0r ⟨i,h⟩
    have hio:ops[i]? =some ops[i]:=by simp[hi]
    refine⟨i,mem_ready.2 ⟨by rw[b0q (by rw[hI.size];exact hi)];exact hf,_,hio,fun e he hb=> ?_⟩⟩
    have:=hback i _ hio e he hb
    cases hb2:listed.getD e.on false with
    |true=>rfl
    |false=>exact absurd ⟨by omega,hb2⟩ (hmin e.on this)
   refine⟨fun e=>(by obtain⟨i,hi⟩:=hne;rw[e]at hi;cases hi),fun i hi=> ?_⟩
   obtain⟨h0,o,ho,hdeps⟩:=mem_ready.1 hi
   have hio:i<ops.size:=(Array.getElem?_eq_some_iff.1 ho).1
   have hf:listed.getD i false=false:=by rw[←b0q (by rw[hI.size];exact hio)];exact h0
   have hil:i<listed.size:=by rw[hI.size];exact hio
   have hanc: ∀j,j∈(c0M ops.toList []).getD i []→listed.getD j false=true:=fun j hj=>d0q hI.closed hback i o ho hdeps j hj
   have hcl:=c0t hI.closed ho hil hdeps
   have hcnt:fuel=(listed.setIfInBounds i true).toList.count false:=by
    have hcs:=b0c listed.toList i (by simpa using hil) (by simpa[Array.getD,hil]using hf)
    simp only[Array.toList_setIfInBounds]
    omega
   have hgd: ∀k,k≠i→(listed.setIfInBounds i true).getD k false=listed.getD k false:=fun k hk=>getD_set_ne false (Ne.symm hk)
   have hgi:(listed.setIfInBounds i true).getD i false=true:=by simp[Array.getD,hil]
   have hsz:(listed.setIfInBounds i true).size=ops.size:=by simpa using hI.size
   rcases(hI.part i hio).1 hf with hPd|hms
   ·
    obtain⟨o',d,v,ho',hd,hN,hlk,hop⟩:=hI.pend i hPd
    obtain rfl:o=o':=by rw[ho]at ho';exact Option.some.inj ho'
    have hA:=hI.reads hpairs ho hdeps (b:=false) (.inl ⟨hI.pdp i hPd,hPd,rfl⟩)
    have hs:=hop R A W hI.rels.rlt (fun e he=>hI.rels.ok e (List.mem_append_right _ he)) (fun e he b hb=>(hI.rels.own e (List.mem_append_right _ he) b hb).2) hA
    have hnext: ∀u W',(∃v' Hn R',Is v v' Hn∧Post1 R W v' Hn u W' R')→wpAny P .any ops Q fuel (listed.setIfInBounds i true) (A.put o.dst u) W':=by
     rintro u W' ⟨v',Hn,R',⟨rfl,rfl⟩,hp⟩
     have hnm:i∉ms.map Prod.fst:=fun hm=>by
      obtain⟨⟨j,c⟩,hq,hji⟩:=List.mem_map.1 hm
      have hq2:=(a0l (pre:=pre) (r:=ms) (by rw[←hI.ord];exact hpairs)).2 _ (hI.pdp i hPd) _ hq
      simp only at hji
      subst hji
      exact(b0D hq2 ho ho).ne rfl
     refine ih _ _ _ pre ms (Pd.filter (· ≠i)) E H R' hcnt ⟨hsz,hcl,fun k hk=> ?_,hI.ord,fun k hk=>hI.pdp k (List.mem_filter.1 hk).1,hI.am,fun k hk=>hI.pend k (List.mem_filter.1 hk).1,by simpa using hI.rels.step hp,?_,?_,fun t x ht hpd=> ?_⟩ hhd
     ·by_cases hki:k=i
      ·subst hki
       rw[hgi]
       simp[hnm]
      ·rw[hgd k hki,hI.part k hk]
       simp[hki]
     ·rw[hd];exact hI.defers
     ·rw[hd];simp[Act.put,hI.tmps]
     ·rw[hd]
      by_cases hdt:d=t
      ·subst hdt
       rw[hlk]at ht
       cases ht
       rw[a0J (by rw[hI.tmps];exact hN)];exact hp.val
      ·rw[a0k hdt]
       refine(hI.act t x ht fun k hk ok hok hdk=> ?_).mono hp.sub (c0Z hp.ext hI.rels.rlt)
       by_cases hki:k=i
       ·subst hki
        rw[ho]at hok
        cases hok
        rw[hd]at hdk
        cases hdk
        exact hdt rfl
       ·exact hpd k (List.mem_filter.2 ⟨hk,by simpa using hki⟩) ok hok hdk
    unfold wpOp
    rw[ho]
    unfold e0V at hs
    show if Region.wanted o (yielded ops A.tmps)=true then _ else _
    split
    ·rename_i hw
     rw[if_pos hw]at hs
     refine .inl (Oper.wp_mono ?_ (b0w hs))
     rintro A' W' ⟨u,rfl,hp⟩
     exact hnext u W' hp
    ·rename_i hw
     rw[if_neg hw]at hs
     exact hnext _ _ hs
   ·
    rcases hhd with rfl|⟨m,r,rfl⟩
    ·cases hms
    have hmlt:m<ops.size:=by have:=hlt (m,true) (by rw[hI.ord];simp);simpa using this
    have hmf:listed.getD m false=false:=(hI.part m hmlt).2 (.inr (by simp))
    have him:i=m:=by
     rcases List.mem_cons.1 hms with h|h
     ·exact h
     ·exfalso
      obtain⟨⟨j,c⟩,hq,hji⟩:=List.mem_map.1 h
      simp only at hji
      subst hji
      have h9:=(a0l (pre:=pre++[(m,true)]) (r:=r) (by have:=hI.ord;rw[List.append_assoc,List.singleton_append,←this];exact hpairs)).2 (m,true) (by simp) _ hq
      have hom:ops[m]? =some ops[m]:=by simp[hmlt]
      have:=hanc m ((b0D h9 hom ho).main rfl)
      rw[hmf]at this;cases this
    subst him
    obtain⟨o',ho',hAO⟩:=hI.am
    obtain rfl:o=o':=by rw[ho]at ho';exact Option.some.inj ho'
    have hA:=hI.reads hpairs ho hdeps (b:=true) (.inr ⟨r,rfl⟩)
    have hs:=hAO W R R A W ⟨Mods.refl _ _,hI.rels.rlt,fun _ h=>h,fun _ h=> .inl h,fun e he=>hI.rels.ok e (List.mem_append_left _ he),fun e he b hb=>⟨.inr ⟨e,he,hb⟩,(hI.rels.own e (List.mem_append_left _ he) b hb).2⟩,(List.pairwise_append.1 hI.rels.disj).1⟩ hA
    have hnext: ∀u W',QS ⟨W,a0D H,R,Γ.N⟩ o.dst (fun v H'=>AM P Γ.N ops Hs (fun E' H'=>AQ Γ Q .normal E' (H'++Hs)) r (a0z o.dst v E) H') .normal (A.put o.dst u) W'→wpAny P .any ops Q fuel (listed.setIfInBounds i true) (A.put o.dst u) W':=by
     rintro u W' ⟨hdf,v,H',R',ham,hsr,hvr⟩
     obtain⟨hrel,hRW⟩:=RelS.part hI.rels hsr
     have hpd: ∀k∈Pd,∀ok,ops[k]? =some ok→ ∀d,o.dst=some d→d∉ok.looksAt ops∧ok.dst≠some d:=fun k hk ok hok d hd=>by
      have h9:=(a0l (pre:=pre) (r:=(i,true)::r) (by rw[←hI.ord];exact hpairs)).2 _ (hI.pdp k hk) (i,true) (List.mem_cons_self ..)
      have hkf:listed.getD k false=false:=(hI.part k (Array.getElem?_eq_some_iff.1 hok).1).2 (.inl hk)
      have hno:k∉(c0M ops.toList []).getD i []:=fun hm=>by
       have:=hanc k hm
       rw[hkf]at this;cases this
      exact⟨fun hm=>hno ((b0D h9 hok ho).mn rfl d hd (.inl hm)),fun he=>hno ((b0D h9 hok ho).mn rfl d hd (.inr he))⟩
     have hnr:i∉r.map Prod.fst:=fun hm=>by
      obtain⟨⟨j,c⟩,hq,hji⟩:=List.mem_map.1 hm
      have h9:=(a0l (pre:=pre++[(i,true)]) (r:=r) (by have:=hI.ord;rw[List.append_assoc,List.singleton_append,←this];exact hpairs)).2 (i,true) (by simp) _ hq
      simp only at hji
      subst hji
      exact(b0D h9 ho ho).ne rfl
     have hnp:i∉Pd:=fun hk=>by
      have h9:=(a0l (pre:=pre) (r:=(i,true)::r) (by rw[←hI.ord];exact hpairs)).2 _ (hI.pdp i hk) (i,true) (List.mem_cons_self ..)
      exact(b0D h9 ho ho).ne rfl
     have hI':MI P Γ ops Hs (fun E' H'=>AQ Γ Q .normal E' (H'++Hs)) ord (listed.setIfInBounds i true) (A.put o.dst u) W' (pre++[(i,true)]) r Pd (a0z o.dst v E) H' R':=by
      refine⟨hsz,hcl,fun k hk=> ?_,by rw[hI.ord];simp,fun k hk=>List.mem_append_left _ (hI.pdp k hk),ham,fun k hk=> ?_,hrel,hdf,?_,fun t x ht hp=> ?_⟩
      ·by_cases hki:k=i
       ·subst hki
        rw[hgi]
        simp[hnr,hnp]
       ·rw[hgd k hki,hI.part k hk]
        simp[hki]
      ·obtain⟨ok,dk,vk,h1,h2,h3,h4,h5⟩:=hI.pend k hk
       refine⟨ok,dk,vk,h1,h2,h3,?_,?_⟩
       ·cases hd:o.dst with
        |none=>exact h4
        |some d=>rw[a0z,a0L (fun e=>(hpd k hk ok h1 d hd).2 (by rw[h2,e]))];exact h4
       ·cases hd:o.dst with
        |none=>exact h5
        |some d=>rw[a0z,b0e (hpd k hk ok h1 d hd).1];exact h5
      ·cases hd:o.dst<;>simp[Act.put,hI.tmps]
      ·cases hd:o.dst with
       |none=>
        rw[hd]at ht
        exact(hI.act t x ht hp).mono hsr.rsub hRW
       | some d=>
        rw[hd,a0z]at ht
        by_cases hdt:d=t
        ·subst hdt
         rw[b0p]at ht
         cases ht
         have:=hvr d hd
         rwa [hd]at this
        ·rw[a0L hdt]at ht
         rw[a0k hdt]
         exact(hI.act t x ht hp).mono hsr.rsub hRW
     obtain⟨pre',ms',Pd',E',hI2,hh2⟩:=hI'.absorb hpairs
     exact ih _ _ _ pre' ms' Pd' E' H' R' hcnt hI2 hh2
    unfold wpOp
    rw[ho]
    unfold wpList at hs
    show if Region.wanted o (yielded ops A.tmps)=true then _ else _
    split
    ·rename_i hw
     rw[if_pos hw]at hs
     refine .inl ?_
     rcases hs with hs|⟨-,a',w',hl⟩
     ·have hs2:o.wp P A W (wpList P ops (QS ⟨W,a0D H,R,Γ.N⟩ o.dst (fun v H'=>AM P Γ.N ops Hs (fun E' H'=>AQ Γ Q .normal E' (H'++Hs)) r (a0z o.dst v E) H')) []) NoQ:=by
       unfold Oper.wp at hs⊢
       revert hs
       cases(execOp A.eval o).run P W with
       | ok n w'=>
        cases n with
        |enter f args=>
         intro hs
         refine Calls.mono hs ?_
         intro e w'' he
         cases e with
         |returned v=>exact he
         |outgrown=>obtain⟨a',w',hl⟩:=he;exact hl.elim
         |_=>exact he.elim
        |_=>exact fun h=>h
       |halt x w'=>cases x<;>exact fun h=>h
      refine Oper.wp_mono ?_ (b0w (Oper.wp_put hs2))
      rintro A' W' ⟨hq,hA'⟩
      have hq':QS ⟨W,a0D H,R,Γ.N⟩ o.dst (fun v H'=>AM P Γ.N ops Hs (fun E' H'=>AQ Γ Q .normal E' (H'++Hs)) r (a0z o.dst v E) H') .normal A' W':=hq
      rcases hA' with⟨u,rfl⟩|hnd
      ·exact hnext u W' hq'
      ·exact absurd hq'.1 hnd
     ·exact hl.elim
    ·rename_i hw
     rw[if_neg hw]at hs
     exact hnext _ _ hs
 have hs:RelS Γ R (Hm++Hs) W.drew:=(RelS.perm ⟨hs0.mods.drew,hs0.rlt,hs0.rsub,hs0.rnew,fun e he=>HE.ok_mono (W:=W) (W':=W.drew) (fun _ h=>h) (fun _ _=>rfl) (Nat.le_refl _) (fun _ _=>rfl) (hs0.ok e he),hs0.own,hs0.disj⟩ hH.symm)
 have ha:RelA Γ.N R W.drew E a:=ha0.mono (fun _ h=>h) (fun _ _=>rfl)
 refine wp_region_any hm ?_
 rw[←hops]
 have hI:MI P Γ ops Hs (fun E' H'=>AQ Γ Q .normal E' (H'++Hs)) ord (Array.replicate ops.size false) a W.drew [] ord [] E Hm R:=by
  refine⟨by simp,fun i o hl=> ?_,fun i hi=> ?_,rfl,fun i hi=>(by cases hi),h,fun i hi=>(by cases hi),hs,ha.defers,ha.size,fun t v ht _=>ha.slots t v ht⟩
  ·exfalso
   by_cases h:i<ops.size<;>simp[Array.getD,h]at hl
  ·have:=hall i hi
   simp only[List.contains_eq_mem,cQ]at this
   simp[Array.getD,hi,this]
 obtain⟨pre',ms',Pd',E',hI2,hh2⟩:=hI.absorb hpairs
 exact main _ _ _ _ pre' ms' Pd' E' Hm R (by simp) hI2 hh2
theorem x0 {Q:Exit→Act→World→Prop}{E:Env}{H:List HE}{id:Nat}{l:List Oper}{Hm Hs:List HE}(ord:List (Nat×Bool))(h:AM P Γ.N l.toArray Hs (fun E' H'=>AQ Γ Q .normal E' (H'++Hs)) ord E Hm)(hm:P.follows .mixedOrders=true:=by kernel_rfl)(hok:r0E l.toArray ord=true:=by kernel_rfl)(hH:c0i E H Hm Hs:=by exact(by exact a0C 2 3 rfl rfl (by exact a0C 3 2 rfl rfl a0h))):AW Γ P Q (.region id l.toArray true) E H:=AW.regionM ord hm hok hH h
theorem AM.op {i d:Nat}{r:List (Nat×Bool)}{E:Env}{H:List HE}{o:Oper}{v:AV}(ho:ops[i]? =some o)(h:OpW P N o (rst E (o.looksAt ops)) Hs (Is v))(hw:a0e ops (rst E (o.looksAt ops)) o=some true)(hd:o.dst=some d)(hN:Nat.ble (d+1) N=true)(k:AM P N ops Hs K r ((d,v)::E) H):
  AM P N ops Hs K ((i,false)::r) E H:=⟨o,d,v,ho,hd,lB hN,.run hw h,k⟩
theorem zZ {i d:Nat}{r:List (Nat×Bool)}{E:Env}{H:List HE}{o:Oper}{v:AV}(k:AM P N ops Hs K r ((d,v)::E) H)(ho:ops[i]? =some o:=by exact rfl)(h:OpW P N o (rst E (o.looksAt ops)) Hs (Is v):=by exact(O.loadK rfl rfl mM (by(dsimp only[List.set,cA,cN,List.take,List.drop];done)) (by rfl)))(hw:a0e ops (rst E (o.looksAt ops)) o=some true:=by exact rfl)(hd:o.dst=some d:=by exact rfl)(hN:Nat.ble (d+1) N=true:=by exact rfl):AM P N ops Hs K ((i,false)::r) E H:=AM.op ho h hw hd hN k
theorem yO {i d:Nat}{r:List (Nat×Bool)}{E:Env}{H:List HE}{o:Oper}{v:AV}(k:AM P N ops Hs K r ((d,v)::E) H)(ho:ops[i]? =some o:=by exact rfl)(h:OpW P N o (rst E (o.looksAt ops)) Hs (Is v):=by exact(O.loadK rfl rfl (by repeat(exact List.Mem.head _)) (by(dsimp only[List.set,cA,cN,List.take,List.drop];done)) (by rfl)))(hw:a0e ops (rst E (o.looksAt ops)) o=some true:=by exact rfl)(hd:o.dst=some d:=by exact rfl)(hN:Nat.ble (d+1) N=true:=by exact rfl):AM P N ops Hs K ((i,false)::r) E H:=AM.op ho h hw hd hN k
theorem yR {i d:Nat}{r:List (Nat×Bool)}{E:Env}{H:List HE}{o:Oper}{v:AV}(k:AM P N ops Hs K r ((d,v)::E) H)(ho:ops[i]? =some o:=by exact rfl)(h:OpW P N o (rst E (o.looksAt ops)) Hs (Is v):=by exact(O.move rfl rfl))(hw:a0e ops (rst E (o.looksAt ops)) o=some true:=by exact rfl)(hd:o.dst=some d:=by exact rfl)(hN:Nat.ble (d+1) N=true:=by exact rfl):AM P N ops Hs K ((i,false)::r) E H:=AM.op ho h hw hd hN k
theorem yT {i d:Nat}{r:List (Nat×Bool)}{E:Env}{H:List HE}{o:Oper}{v:AV}(k:AM P N ops Hs K r ((d,v)::E) H)(ho:ops[i]? =some o:=by exact rfl)(h:OpW P N o (rst E (o.looksAt ops)) Hs (Is v):=by exact(O.load rfl rfl mM (by rfl)))(hw:a0e ops (rst E (o.looksAt ops)) o=some true:=by exact rfl)(hd:o.dst=some d:=by exact rfl)(hN:Nat.ble (d+1) N=true:=by exact rfl):AM P N ops Hs K ((i,false)::r) E H:=AM.op ho h hw hd hN k
theorem xd {i d:Nat}{r:List (Nat×Bool)}{E:Env}{H:List HE}{o:Oper}{v:AV}(k:AM P N ops Hs K r ((d,v)::E) H)(ho:ops[i]? =some o:=by exact rfl)(h:OpW P N o (rst E (o.looksAt ops)) Hs (Is v):=by exact(O.fieldAddr rfl rfl))(hw:a0e ops (rst E (o.looksAt ops)) o=some true:=by exact rfl)(hd:o.dst=some d:=by exact rfl)(hN:Nat.ble (d+1) N=true:=by exact rfl):AM P N ops Hs K ((i,false)::r) E H:=AM.op ho h hw hd hN k
theorem xh {i d:Nat}{r:List (Nat×Bool)}{E:Env}{H:List HE}{o:Oper}{v:AV}(k:AM P N ops Hs K r ((d,v)::E) H)(ho:ops[i]? =some o:=by exact rfl)(h:OpW P N o (rst E (o.looksAt ops)) Hs (Is v):=by exact(OpW.frz (O.buildSlice rfl rfl rfl (by rfl) (by rfl) (by rfl) (by rfl)) (by(unfold maxLen;omega))))(hw:a0e ops (rst E (o.looksAt ops)) o=some true:=by exact rfl)(hd:o.dst=some d:=by exact rfl)(hN:Nat.ble (d+1) N=true:=by exact rfl):AM P N ops Hs K ((i,false)::r) E H:=AM.op ho h hw hd hN k
theorem xD {i d:Nat}{r:List (Nat×Bool)}{E:Env}{H:List HE}{o:Oper}{v:AV}(k:AM P N ops Hs K r ((d,v)::E) H)(ho:ops[i]? =some o:=by exact rfl)(h:OpW P N o (rst E (o.looksAt ops)) Hs (Is v):=by exact(O.loadK rfl rfl (by repeat(exact List.Mem.head _)) (by(dsimp only[List.set,List.append,cA,cN,a0r,a0q,a0w,a0d,a0n,AV.cells,List.map,List.map_cons,List.map_nil,List.take,List.drop,Nat.zero_add,Nat.add_zero,Nat.reduceAdd,Nat.reduceMul,Nat.zero_mul,Value.cells,List.toList_toArray,a0p,List.replicate,List.flatten,cP];done)) (by rfl)))(hw:a0e ops (rst E (o.looksAt ops)) o=some true:=by exact rfl)(hd:o.dst=some d:=by exact rfl)(hN:Nat.ble (d+1) N=true:=by exact rfl):AM P N ops Hs K ((i,false)::r) E H:=AM.op ho h hw hd hN k
theorem we {i d:Nat}{r:List (Nat×Bool)}{E:Env}{H:List HE}{o:Oper}{v:AV}(k:AM P N ops Hs K r ((d,v)::E) H)(ho:ops[i]? =some o:=by exact rfl)(h:OpW P N o (rst E (o.looksAt ops)) Hs (Is v):=by exact(O.load rfl rfl (by repeat(exact List.Mem.head _)) (by rfl)))(hw:a0e ops (rst E (o.looksAt ops)) o=some true:=by exact rfl)(hd:o.dst=some d:=by exact rfl)(hN:Nat.ble (d+1) N=true:=by exact rfl):AM P N ops Hs K ((i,false)::r) E H:=AM.op ho h hw hd hN k
theorem wM {i d:Nat}{r:List (Nat×Bool)}{E:Env}{H:List HE}{o:Oper}{v:AV}(k:AM P N ops Hs K r ((d,v)::E) H)(ho:ops[i]? =some o:=by exact rfl)(h:OpW P N o (rst E (o.looksAt ops)) Hs (Is v):=by exact(O.assign rfl rfl))(hw:a0e ops (rst E (o.looksAt ops)) o=some true:=by exact rfl)(hd:o.dst=some d:=by exact rfl)(hN:Nat.ble (d+1) N=true:=by exact rfl):AM P N ops Hs K ((i,false)::r) E H:=AM.op ho h hw hd hN k
theorem wN {i d:Nat}{r:List (Nat×Bool)}{E:Env}{H:List HE}{o:Oper}{v:AV}(k:AM P N ops Hs K r ((d,v)::E) H)(ho:ops[i]? =some o:=by exact rfl)(h:OpW P N o (rst E (o.looksAt ops)) Hs (Is v):=by exact(O.sliceV rfl rfl rfl rfl ⟨by omega,by omega,by omega⟩ (by omega)))(hw:a0e ops (rst E (o.looksAt ops)) o=some true:=by exact rfl)(hd:o.dst=some d:=by exact rfl)(hN:Nat.ble (d+1) N=true:=by exact rfl):AM P N ops Hs K ((i,false)::r) E H:=AM.op ho h hw hd hN k
theorem vU {i d:Nat}{r:List (Nat×Bool)}{E:Env}{H:List HE}{o:Oper}{v:AV}(ho:ops[i]? =some o)(h:OpW P N o (rst E (o.looksAt ops)) Hs (Is v))(k:AM P N ops Hs K r ((d,v)::E) H)(hw:a0e ops (rst E (o.looksAt ops)) o=some true:=by exact rfl)(hd:o.dst=some d:=by exact rfl)(hN:Nat.ble (d+1) N=true:=by exact rfl):AM P N ops Hs K ((i,false)::r) E H:=AM.op ho h hw hd hN k
theorem AM.opG {i d:Nat}{r:List (Nat×Bool)}{E:Env}{H:List HE}{o:Oper}{c:Bool}{v:AV}(ho:ops[i]? =some o)(hw:a0P ops (rst E (o.looksAt ops)) o=some c)(hd:o.dst=some d)(hN:Nat.ble (d+1) N=true)(h:c=true→OpW P N o (rst E (o.looksAt ops)) Hs (Is v))(k:AM P N ops Hs K r ((d,.opt c v)::E) H):
  AM P N ops Hs K ((i,false)::r) E H:=⟨o,d,_,ho,hd,lB hN,.opt hw h,k⟩
theorem AM.no {i d:Nat}{r:List (Nat×Bool)}{E:Env}{H:List HE}{o:Oper}(ho:ops[i]? =some o)(hw:a0e ops (rst E (o.looksAt ops)) o=some false)(hd:o.dst=some d)(hN:Nat.ble (d+1) N=true)(k:AM P N ops Hs K r ((d,.val undef)::E) H):
  AM P N ops Hs K ((i,false)::r) E H:=⟨o,d,_,ho,hd,lB hN,.no hw,k⟩
theorem AM.main {i:Nat}{r:List (Nat×Bool)}{E:Env}{H:List HE}(o:Oper)(ho:ops[i]? =some o)(h: ∀w0 R0,AO ⟨w0,a0D H,R0,N⟩ P ops (QS ⟨w0,a0D H,R0,N⟩ o.dst (fun v H'=>AM P N ops Hs K r (a0z o.dst v E) H')) [o] (rst E (o.looksAt ops)) H):
  AM P N ops Hs K ((i,true)::r) E H:=⟨o,ho,h⟩
theorem xX {i:Nat}{r:List (Nat×Bool)}{E:Env}{H:List HE}(o:Oper)(h: ∀w0 R0,AO ⟨w0,a0D H,R0,N⟩ P ops (QS ⟨w0,a0D H,R0,N⟩ o.dst (fun v H'=>AM P N ops Hs K r (a0z o.dst v E) H')) [o] (rst E (o.looksAt ops)) H)(ho:ops[i]? =some o:=by exact rfl):AM P N ops Hs K ((i,true)::r) E H:=AM.main o ho h
theorem AM.ok {w0:World}{S0 R0:Nat→Prop}{d:Nat}{v:AV}{S:AV→List HE→Prop}{E1:Env}{H':List HE}(h:S v H'):AO ⟨w0,S0,R0,N⟩ P ops (QS ⟨w0,S0,R0,N⟩ (some d) S) [] ((d,v)::E1) H':=fun R a W hs ha=>
 ⟨ha.defers,v,H',R,h,hs,fun t ht=>by cases ht;exact ha.slots d v b0p⟩
theorem AM.okN {w0:World}{S0 R0:Nat→Prop}{S:AV→List HE→Prop}{E1:Env}{H':List HE}(h:S (.val undef) H'):AO ⟨w0,S0,R0,N⟩ P ops (QS ⟨w0,S0,R0,N⟩ none S) [] E1 H':=fun R a W hs ha=>
 ⟨ha.defers,_,H',R,h,hs,fun t ht=>by cases ht⟩
theorem AM.nil {E:Env}{H:List HE}(h:K E H):AM P N ops Hs K [] E H:=h
theorem vg {E:Env}{H:List HE}(h:K E H):AM P N ops Hs K [] E H:=AM.nil h
end
theorem f0m (n:Int)(h0:0≤n)(h1:n<2^63):IntKind.i64.wrap n=n:=by rw[IntKind.wrap_i64];omega
section
variable {x y q m:Int}
theorem j0W (i:Nat)(hi:i≤8)(hq:q=2^i-1)(hm:m=2^i)(h:0≤x∧x≤255):Go.bits .and .u8 x q=x%m:=by
 subst hq;subst hm;exact bits_mask .u8 8 (by decide) wraps_u8 i hi x h.1 (by omega)
theorem u0g (i:Nat)(hi:i≤63)(hq:q=2^i-1)(hm:m=2^i)(h:0≤x∧x≤9223372036854775807):Go.bits .and .i64 x q=x%m:=by
 subst hq;subst hm;exact bits_mask .i64 63 (by decide) f0m i hi x h.1 (by omega)
theorem q0B (i:Nat)(hi:i≤64)(hq:q=2^i-1)(hm:m=2^i)(h:0≤x∧x≤18446744073709551615):Go.bits .and .u64 x q=x%m:=by
 subst hq;subst hm;exact bits_mask .u64 64 (by decide) wraps_u64 i hi x h.1 (by omega)
theorem v0F (i:Nat)(hm:m=2^i)(hx:0≤x∧x≤255∧x%m=0)(hy:0≤y∧y<m∧y≤255):Go.bits .or .u8 x y=x+y:=by
 subst hm;exact bits_join .u8 8 (by decide) wraps_u8 i x y hx.1 hx.2.2 (by omega) hy.1 hy.2.1 (by omega)
theorem n0i (i:Nat)(hm:m=2^i)(hx:0≤x∧x≤9223372036854775807∧x%m=0)(hy:0≤y∧y<m∧y≤9223372036854775807):Go.bits .or .i64 x y=x+y:=by
 subst hm;exact bits_join .i64 63 (by decide) f0m i x y hx.1 hx.2.2 (by omega) hy.1 hy.2.1 (by omega)
theorem r0I (i:Nat)(hm:m=2^i)(hx:0≤x∧x<m∧x≤255)(hy:0≤y∧y≤255∧y%m=0):Go.bits .or .u8 x y=x+y:=by
 subst hm;exact bits_join_low .u8 8 (by decide) wraps_u8 i x y hx.1 hx.2.1 (by omega) hy.1 hy.2.2 (by omega)
theorem l0a {a c:Nat}(ha:a<256)(hc:c<256):Go.bits .and .u8 (a:Int) (c:Int)=((a&&&c:Nat):Int):=(bits_nat .u8 8 (by decide) wraps_u8 a c ha hc).1
theorem j0X {a c:Nat}(ha:a<9223372036854775808)(hc:c<9223372036854775808):Go.bits .and .i64 (a:Int) (c:Int)=((a&&&c:Nat):Int):=(bits_nat .i64 63 (by decide) f0m a c ha hc).1
theorem s0K {a b:UInt8}:Go.bits .xor .u8 (a.toNat:Int) (b.toNat:Int)=((a^^^b).toNat:Int):=by
 have h:(a.toNat^^^b.toNat)<2^8:=Nat.xor_lt_two_pow a.toNat_lt b.toNat_lt
 have e:(BitVec.ofInt 8 (a.toNat:Int)^^^BitVec.ofInt 8 (b.toNat:Int)).toNat=(a^^^b).toNat:=by
  rw[BitVec.toNat_xor,BitVec.ofInt_natCast,BitVec.ofInt_natCast,BitVec.toNat_ofNat,BitVec.toNat_ofNat,Nat.mod_eq_of_lt a.toNat_lt,Nat.mod_eq_of_lt b.toNat_lt,UInt8.toNat_xor]
 show IntKind.u8.wrap ((BitVec.ofInt 8 (a.toNat:Int)^^^BitVec.ofInt 8 (b.toNat:Int)).toNat:Int)=_
 rw[e]
 have:=(a^^^b).toNat_lt
 exact wraps_u8 _ (by omega) (by omega)
end
section
variable {Γ:Cx}{P:Program}{E:Env}{H:List HE}{N:Nat}{o:Oper}
theorem O.shrK (j:Nat)(m:Int){T T':Nat}{x y:Operand}{k k':IntKind}{p q:Int}(ho:o.op= .binOp .shr T x y T')(hx:ev E x=some (.val (.int k p)))(hy:ev E y=some (.val (.int k' q)))(hq:q=(j:Int))(hm:(2:Int)^ (min j k.bits)=m):
  OpW P N o E H (Is (.val (.int k (p/m)))):=O.shr ho hx hy (by omega) (by
   subst hq;subst hm
   rw[Int.toNat_natCast,Int.fdiv_eq_ediv_of_nonneg]
   exact Int.le_of_lt (Int.pow_pos (by decide)))
theorem wz {T T':Nat}{x y:Operand}{k k':IntKind}{p q:Int}(j:Nat)(m:Int)(ho:o.op= .binOp .shr T x y T':=by exact rfl)(hx:ev E x=some (.val (.int k p)):=by exact rfl)(hy:ev E y=some (.val (.int k' q)):=by exact rfl)(hq:q=(j:Int):=by exact rfl)(hm:(2:Int)^ (min j k.bits)=m:=by rfl):OpW P N o E H (Is (.val (.int k (p/m)))):=O.shrK j m ho hx hy hq hm
theorem O.shlK (j:Nat)(m:Int){T T':Nat}{x y:Operand}{k k':IntKind}{p q c:Int}(ho:o.op= .binOp .shl T x y T')(hx:ev E x=some (.val (.int k p)))(hy:ev E y=some (.val (.int k' q)))(hq:q=(j:Int))(hm:(2:Int)^ (min j k.bits)=m)(hc:k.wrap (p*m)=c):
  OpW P N o E H (Is (.val (.int k c))):=O.shl ho hx hy (by omega) (by
   subst hq;subst hm
   rw[Int.toNat_natCast];exact hc)
end
section
variable {Γ:Cx}{P:Program}{Q:Exit→Act→World→Prop}{E:Env}{H:List HE}
def Mid (Γ:Cx)(Q:Exit→Act→World→Prop)(φ:Prop)(E1:Env)(H1:List HE):Exit→Act→World→Prop:=Exit.then (fun a W=>φ∧ ∃R,RelS Γ R H1 W∧RelA Γ.N R W E1 a) Q
theorem p0Y {c:Code}{a:Act}{W:World}{φ:Prop}{E1:Env}{H1:List HE}(h:c.wp P (Mid Γ Q φ E1 H1) a W)(k:φ→AQ Γ Q .normal E1 H1):c.wp P Q a W:=by
 refine wp_mono h ?_
 intro x a W hx
 cases x with
 |normal=>obtain⟨hφ,R,h1,h2⟩:=hx;exact k hφ R a W h1 h2
 |_=>exact hx
theorem AQ.midR {φ:Prop}{E1:Env}{H1:List HE}(h:AQ Γ Q .ret E H):AQ Γ (Mid Γ Q φ E1 H1) .ret E H:=h
theorem AW.joinK {t:Nat}{b:Bool}{x y:Code}(φ:Prop)(K E1:Env)(H1:List HE)(ht:a0t E t=some (.val (.bool b)))(hK: ∀p∈K,a0t E p.1=some p.2)(h1:b=true→AW Γ P (Mid Γ Q φ (E1++K) H1) x E H)(h2:b=false→AW Γ P (Mid Γ Q φ (E1++K) H1) y E H)(k:φ→AQ Γ Q .normal (E1++K) H1):
  AW Γ P Q (.cond (.tmp t) x y) E H:=AW.cond b ht (fun hb R a W hs ha=>p0Y (h1 hb R a W hs ha) k) (fun hb R a W hs ha=>p0Y (h2 hb R a W hs ha) k)
theorem xL {t:Nat}{b:Bool}{x y:Code}(φ:Prop)(K:Env)(E1:Env)(H1:List HE)(h1:b=true→AW Γ P (Mid Γ Q φ (E1++K) H1) x E H)(h2:b=false→AW Γ P (Mid Γ Q φ (E1++K) H1) y E H)(k:φ→AQ Γ Q .normal (E1++K) H1)(ht:a0t E t=some (.val (.bool b)):=by exact rfl)(hK: ∀p∈K,a0t E p.1=some p.2:=by repeat(first|exact a0j|refine a0i rfl ?_)):AW Γ P Q (.cond (.tmp t) x y) E H:=AW.joinK φ K E1 H1 ht hK h1 h2 k
theorem AQ.midK {φ:Prop}{K E1:Env}{H1:List HE}(hφ:φ)(hK: ∀p∈K,a0t E p.1=some p.2)(hE: ∀p∈E1,a0t E p.1=some p.2)(hH: ∃H2,H2.Sublist H∧H1.Perm H2):AQ Γ (Mid Γ Q φ (E1++K) H1) .normal E H:=fun R a W hs ha=>by
 obtain⟨H2,h1,h2⟩:=hH
 have hmem: ∀{E:Env} {t:Nat} {v:AV},a0t E t=some v→(t,v)∈E:=by
  intro E
  induction E with
  |nil=>intro t v h;cases h
  |cons p r ih=>
   intro t v h
   unfold a0t at h
   cases hb:Nat.beq p.1 t with
   |true=>rw[hb]at h;simp at h;subst h;have:=Nat.eq_of_beq_eq_true hb;subst this;exact List.mem_cons_self ..
   |false=>rw[hb]at h;exact List.mem_cons_of_mem _ (ih h)
 exact⟨hφ,R,(hs.sub h1).perm h2,ha.defers,ha.size,fun t v ht=>ha.slots t v (h0J hE hK _ (hmem ht))⟩
theorem yj {φ:Prop}{K E1:Env}{H1:List HE}(hφ:φ:=by exact(trivial))(hK: ∀p∈K,a0t E p.1=some p.2:=by repeat(first|exact a0j|refine a0i rfl ?_))(hE: ∀p∈E1,a0t E p.1=some p.2:=by repeat(first|exact a0j|refine a0i rfl ?_))(hH: ∃H2,H2.Sublist H∧H1.Perm H2:=by repeat(first|exact a0A|refine a0v 0 rfl ?_)):AQ Γ (Mid Γ Q φ (E1++K) H1) .normal E H:=AQ.midK hφ hK hE hH
theorem wD {φ:Prop}{K E1:Env}{H1:List HE}(hφ:φ)(hK: ∀p∈K,a0t E p.1=some p.2:=by repeat(first|exact a0j|refine a0i rfl ?_))(hE: ∀p∈E1,a0t E p.1=some p.2:=by repeat(first|exact a0j|refine a0i rfl ?_))(hH: ∃H2,H2.Sublist H∧H1.Perm H2:=by repeat(first|exact a0A|refine a0v 0 rfl ?_)):AQ Γ (Mid Γ Q φ (E1++K) H1) .normal E H:=AQ.midK hφ hK hE hH
theorem wR {φ:Prop}{K E1:Env}{H1:List HE}(hφ:φ:=by exact(trivial))(hK: ∀p∈K,a0t E p.1=some p.2:=by repeat(first|exact a0j|refine a0i rfl ?_))(hE: ∀p∈E1,a0t E p.1=some p.2:=by repeat(exact a0j))(hH: ∃H2,H2.Sublist H∧H1.Perm H2:=by repeat(first|exact a0A|refine a0v 0 rfl ?_)):AQ Γ (Mid Γ Q φ (E1++K) H1) .normal E H:=AQ.midK hφ hK hE hH
theorem AQ.midK0 {φ:Prop}{E1:Env}{H1:List HE}(hφ:φ)(hE: ∀p∈E1,a0t E p.1=some p.2)(hH: ∃H2,H2.Sublist H∧H1.Perm H2):AQ Γ (Mid Γ Q φ E1 H1) .normal E H:=
 AQ.midK (K:=E1) (E1:= []) hφ hE (fun p hp=>absurd hp (by simp)) hH
theorem vb {φ:Prop}{E1:Env}{H1:List HE}(hφ:φ:=by exact(trivial))(hE: ∀p∈E1,a0t E p.1=some p.2:=by repeat(first|exact a0j|refine a0i rfl ?_))(hH: ∃H2,H2.Sublist H∧H1.Perm H2:=by repeat(first|exact a0A|refine a0v 0 rfl ?_)):AQ Γ (Mid Γ Q φ E1 H1) .normal E H:=AQ.midK0 hφ hE hH
def o0p (Γ:Cx)(Q:Exit→Act→World→Prop)(K:Env)(I:Env→List HE→Prop):Exit→Act→World→Prop:=Exit.then (fun a W=> ∃E1 H1 R,I E1 H1∧RelS Γ R H1 W∧RelA Γ.N R W (E1++K) a) Q
theorem m0c {c:Code}{a:Act}{W:World}{K:Env}{I:Env→List HE→Prop}(h:c.wp P (o0p Γ Q K I) a W)(k: ∀E1 H1,I E1 H1→AQ Γ Q .normal (E1++K) H1):c.wp P Q a W:=by
 refine wp_mono h ?_
 intro x a W hx
 cases x with
 |normal=>obtain⟨E1,H1,R,hI,h1,h2⟩:=hx;exact k E1 H1 hI R a W h1 h2
 |_=>exact hx
theorem AW.joinI {t:Nat}{b:Bool}{x y:Code}(K:Env)(I:Env→List HE→Prop)(ht:a0t E t=some (.val (.bool b)))(hK: ∀p∈K,a0t E p.1=some p.2)(h1:b=true→AW Γ P (o0p Γ Q K I) x E H)(h2:b=false→AW Γ P (o0p Γ Q K I) y E H)(k: ∀E1 H1,I E1 H1→AQ Γ Q .normal (E1++K) H1):
  AW Γ P Q (.cond (.tmp t) x y) E H:=AW.cond b ht (fun hb R a W hs ha=>m0c (h1 hb R a W hs ha) k) (fun hb R a W hs ha=>m0c (h2 hb R a W hs ha) k)
theorem xU {t:Nat}{b:Bool}{x y:Code}(K:Env)(I:Env→List HE→Prop)(h1:b=true→AW Γ P (o0p Γ Q K I) x E H)(h2:b=false→AW Γ P (o0p Γ Q K I) y E H)(k: ∀E1 H1,I E1 H1→AQ Γ Q .normal (E1++K) H1)(ht:a0t E t=some (.val (.bool b)):=by exact rfl)(hK: ∀p∈K,a0t E p.1=some p.2:=by repeat(first|exact a0j|refine a0i rfl ?_)):AW Γ P Q (.cond (.tmp t) x y) E H:=AW.joinI K I ht hK h1 h2 k
theorem ve {t:Nat}{b:Bool}{x y:Code}(K:Env)(I:Env→List HE→Prop)(h1:b=true→AW Γ P (o0p Γ Q K I) x E H)(h2:b=false→AW Γ P (o0p Γ Q K I) y E H)(k: ∀E1 H1,I E1 H1→AQ Γ Q .normal (E1++K) H1)(ht:a0t E t=some (.val (.bool b)):=by exact rfl)(hK: ∀p∈K,a0t E p.1=some p.2:=by repeat(exact a0j)):AW Γ P Q (.cond (.tmp t) x y) E H:=AW.joinI K I ht hK h1 h2 k
theorem AQ.midI {K:Env}{I:Env→List HE→Prop}(E1:Env)(H1:List HE)(hI:I E1 H1)(hK: ∀p∈K,a0t E p.1=some p.2)(hE: ∀p∈E1,a0t E p.1=some p.2)(hH: ∃H2,H2.Sublist H∧H1.Perm H2):AQ Γ (o0p Γ Q K I) .normal E H:=fun R a W hs ha=>by
 obtain⟨H2,h1,h2⟩:=hH
 have hmem: ∀{E:Env} {t:Nat} {v:AV},a0t E t=some v→(t,v)∈E:=by
  intro E
  induction E with
  |nil=>intro t v h;cases h
  |cons p r ih=>
   intro t v h
   unfold a0t at h
   cases hb:Nat.beq p.1 t with
   |true=>rw[hb]at h;simp at h;subst h;have:=Nat.eq_of_beq_eq_true hb;subst this;exact List.mem_cons_self ..
   |false=>rw[hb]at h;exact List.mem_cons_of_mem _ (ih h)
 exact⟨E1,H1,R,hI,(hs.sub h1).perm h2,ha.defers,ha.size,fun t v ht=>ha.slots t v (h0J hE hK _ (hmem ht))⟩
theorem yd {K:Env}{I:Env→List HE→Prop}(E1:Env)(H1:List HE)(hI:I E1 H1)(hK: ∀p∈K,a0t E p.1=some p.2:=by repeat(exact a0j))(hE: ∀p∈E1,a0t E p.1=some p.2:=by repeat(first|exact a0j|refine a0i rfl ?_))(hH: ∃H2,H2.Sublist H∧H1.Perm H2:=by repeat(exact a0A)):AQ Γ (o0p Γ Q K I) .normal E H:=AQ.midI E1 H1 hI hK hE hH
theorem yx {K:Env}{I:Env→List HE→Prop}(E1:Env)(H1:List HE)(hI:I E1 H1)(hK: ∀p∈K,a0t E p.1=some p.2:=by repeat(first|exact a0j|refine a0i rfl ?_))(hE: ∀p∈E1,a0t E p.1=some p.2:=by repeat(first|exact a0j|refine a0i rfl ?_))(hH: ∃H2,H2.Sublist H∧H1.Perm H2:=by repeat(exact a0A)):AQ Γ (o0p Γ Q K I) .normal E H:=AQ.midI E1 H1 hI hK hE hH
theorem xw {K:Env}{I:Env→List HE→Prop}(E1:Env)(H1:List HE)(hI:I E1 H1)(hK: ∀p∈K,a0t E p.1=some p.2:=by repeat(first|exact a0j|refine a0i rfl ?_))(hE: ∀p∈E1,a0t E p.1=some p.2:=by repeat(exact a0j))(hH: ∃H2,H2.Sublist H∧H1.Perm H2:=by repeat(first|exact a0A|refine a0v 0 rfl ?_)):AQ Γ (o0p Γ Q K I) .normal E H:=AQ.midI E1 H1 hI hK hE hH
theorem FnQ.coe {Γ:Cx}{P:Program}{fn:Func}{Post:AV→List HE→Prop}{E:Env}{H:List HE}{r r':AV}{H':List HE}(h:AQ Γ (FnQ Γ P fn (fun q K=>q=r∧K=H')) .ret E H)(hc:Coe r r')(hp:Post r' H'):AQ Γ (FnQ Γ P fn Post) .ret E H:=fun R a W hs ha=>by
 have:=h R a W hs ha
 unfold FnQ at this⊢
 obtain⟨hd,v,hv,u,q,K,R',he,⟨rfl,rfl⟩,h1,h2⟩:=this
 exact⟨hd,v,hv,u,_,_,R',he,hp,h1,hc R' W u h2⟩
theorem x8 {Γ:Cx}{P:Program}{fn:Func}{Post:AV→List HE→Prop}{E:Env}{H:List HE}{r r':AV}{H':List HE}(h:AQ Γ (FnQ Γ P fn (fun q K=>q=r∧K=H')) .ret E H)(hc:Coe r r')(hp:Post r' H'):AQ Γ (FnQ Γ P fn Post) .ret E H:=FnQ.coe h hc hp
theorem Coe.tup {x y:List AV}(h:CoeL x y):Coe (.tup x) (.tup y):=fun R W u hu=>by
 obtain⟨us,rfl,h1⟩:=hu.tup_inv
 exact(h R W us h1).toTup
theorem zj {x y:List AV}(h:CoeL x y:=by(repeat(first|exact CoeL.nil|refine CoeL.cons Coe.rfl ?_|refine CoeL.cons Coe.nil ?_|refine CoeL.cons (Coe.agg ?_) ?_));done):Coe (.tup x) (.tup y):=Coe.tup h
theorem yq {x y:List AV}(h:CoeL x y:=by(repeat(first|exact CoeL.nil|refine CoeL.cons Coe.rfl ?_|refine CoeL.cons Coe.nil ?_));done):Coe (.tup x) (.tup y):=Coe.tup h
theorem xe {x y:List AV}(h:CoeL x y:=by(repeat(first|exact CoeL.nil|refine CoeL.cons Coe.rfl ?_));done):Coe (.tup x) (.tup y):=Coe.tup h
end
end Go.Proofs.YtojomcdjcpmnkaaGreat.A
namespace Go.Proofs.YtojomcdjcpmnkaaGreat.Dk
open Go.RowKit L A
attribute [local irreducible] AW AQ AO
theorem mod_fn (v n:Int)(h1:0<n)(h2:n≤4611686018427387904):Sp Tryz.prog 82 [.val (.int .i64 v),.val (.int .i64 n)] [] (Is (.val (.int .i64 (v%n)))):=by
 have hf:=m0k v n h1
 have hlt:v.tmod n<n:=Int.tmod_lt_of_pos v h1
 have hge: -n<v.tmod n:=by
  rcases Int.le_total 0 v with hv|hv
  ·have:=Int.tmod_nonneg n hv;omega
  ·have:=Int.lt_tmod_of_pos v h1;omega
 refine Sp.enter Tryz.func82 rfl _ Tryz.ntmps82 rfl (fun w0 R0=> ?_)
 refine AW.seq ?_
 refine AW.region ?_
 refine AO.op (O.assign rfl rfl) rfl rfl rfl ?_
 refine AO.nil ?_
 refine AQ.thenN ?_
 refine AW.seq ?_
 refine AW.region ?_
 refine AO.op (O.move rfl rfl) rfl rfl rfl ?_
 refine AO.op (O.move rfl rfl) rfl rfl rfl ?_
 refine AO.op (O.rem rfl rfl rfl (by omega) rfl) rfl rfl rfl ?_
 refine AO.op (O.assign rfl rfl) rfl rfl rfl ?_
 refine AO.nil ?_
 refine AQ.thenN ?_
 refine AW.seq ?_
 refine AW.seq ?_
 refine AW.region ?_
 refine AO.op (O.move rfl rfl) rfl rfl rfl ?_
 refine AO.op (O.lss rfl rfl rfl (by rfl)) rfl rfl rfl ?_
 refine AO.nil ?_
 refine AQ.thenN ?_
 refine AW.split rfl (fun h=> ?_) (fun h=> ?_)
 ·have h:v.tmod n<0:=of_decide_eq_true h
  rw[if_pos h]at hf
  refine AW.region ?_
  refine AO.op (O.move rfl rfl) rfl rfl rfl ?_
  refine AO.op (O.move rfl rfl) rfl rfl rfl ?_
  refine AO.op (O.add rfl rfl rfl (by exact e0h (by omega))) rfl rfl rfl ?_
  refine AO.op (O.assign rfl rfl) rfl rfl rfl ?_
  refine AO.nil ?_
  refine AQ.thenN ?_
  refine AW.seq ?_
  refine AW.region ?_
  refine AO.op (O.move rfl rfl) rfl rfl rfl ?_
  refine AO.op (O.assign rfl rfl) rfl rfl rfl ?_
  refine AO.nil ?_
  refine AQ.thenN ?_
  refine AW.ret ?_
  refine AQ.ret1 rfl rfl nS (⟨by rw[hf],rfl⟩)
 ·have h: ¬v.tmod n<0:=of_decide_eq_false h
  rw[if_neg h]at hf
  refine AW.skip ?_
  refine AQ.thenN ?_
  refine AW.seq ?_
  refine AW.region ?_
  refine AO.op (O.move rfl rfl) rfl rfl rfl ?_
  refine AO.op (O.assign rfl rfl) rfl rfl rfl ?_
  refine AO.nil ?_
  refine AQ.thenN ?_
  refine AW.ret ?_
  refine AQ.ret1 rfl rfl nS (⟨by rw[hf],rfl⟩)
abbrev f0Z (b:Nat)(l:List Int)(k:Nat):HE:= .blk b 101 2 [roI l,.val (.int .i64 (k:Int))]
abbrev ptr (b:Nat):AV:= .val (.pointer (some ⟨b,0,none⟩))
def nxt (l:List Int)(k:Nat)(n:Int):Int:=if k<l.length then l.getD k 0%n else 0
def adv (l:List Int)(k:Nat):Nat:=if k<l.length then k+1 else k
theorem q0i (l:List Int)(k:Nat){n:Int}(h:0<n):0≤nxt l k n∧nxt l k n<n:=by
 unfold nxt
 split
 ·exact⟨Int.emod_nonneg _ (by omega),Int.emod_lt_of_pos _ h⟩
 ·omega
theorem u0j {l:List Int}{k m:Nat}(h:k≤m)(hm:l.length≤m):adv l k≤m:=by unfold adv;split<;>omega
theorem s0s {l:List Int}{k:Nat}(h:k≤l.length):adv l k≤l.length:=u0j h (Nat.le_refl _)
theorem t0A (l:List Int):Sp Tryz.prog 11 [roI l] [] (a0W (fun b=> .val (.pointer (some ⟨b,0,none⟩))) 101 2 [roI l,.val (.int .i64 0)]):=by
 refine Sp.enter Tryz.func11 rfl _ Tryz.ntmps11 rfl (fun w0 R0=> ?_)
 refine AW.seq ?_
 refine AW.region ?_
 refine AO.op (O.assign rfl rfl) rfl rfl rfl ?_
 refine AO.nil ?_
 refine AQ.thenN ?_
 refine AW.seq ?_
 refine AW.region ?_
 refine AO.op (O.move rfl rfl) rfl rfl rfl ?_
 refine AO.op (O.build rfl rfl rfl (by rfl)) rfl rfl rfl ?_
 refine AO.opB (O.box rfl rfl rfl rfl rfl) rfl rfl rfl ?_
 intro B
 refine AO.op (O.assign rfl rfl) rfl rfl rfl ?_
 refine AO.nil ?_
 refine AQ.thenN ?_
 refine AW.ret ?_
 refine AQ.ret1 rfl rfl ⟨_,by repeat(first|exact List.Sublist.slnil|refine List.Sublist.cons_cons _ ?_),List.Perm.refl _⟩ (⟨B,rfl,rfl⟩)
theorem q0e {l:List Int}{k:Nat}(h:k<l.length){j:Nat}(hj:j=k):(d0t .i64 l)[j]? =some (.val (.int .i64 (l.getD k 0))):=by
 subst hj;simp[d0t,h]
theorem r0T (b:Nat)(l:List Int)(k:Nat)(n:Int)(hl:l.length≤maxLen)(hk:k≤l.length)(hn1:0<n)(hn2:n≤4611686018427387904):
  Sp Tryz.prog 33 [ptr b,.val (.int .i64 n)] [f0Z b l k] (IsM (.val (.int .i64 (nxt l k n))) (f0Z b l (adv l k))):=by
 unfold maxLen at hl
 refine Sp.enter Tryz.func33 rfl _ Tryz.ntmps33 rfl (fun w0 R0=> ?_)
 refine AW.seq ?_
 refine AW.region ?_
 refine AO.op (O.assign rfl rfl) rfl rfl rfl ?_
 refine AO.nil ?_
 refine AQ.thenN ?_
 refine AW.seq ?_
 refine AW.seq ?_
 refine AW.regionD 10 (by kernel_rfl) (by kernel_rfl) ?_
 simp only[cT,cZ,cD,cO]
 refine FA.op (O.move rfl rfl) rfl rfl rfl rfl ?_
 refine FA.op (O.nilCheck rfl rfl) rfl rfl rfl rfl ?_
 refine FA.op (O.fieldAddr rfl rfl) rfl rfl rfl rfl ?_
 refine FA.op (O.load rfl rfl (by repeat(exact List.Mem.head _)) (by rfl)) rfl rfl rfl rfl ?_
 refine FA.op (O.move rfl rfl) rfl rfl rfl rfl ?_
 refine FA.op (O.nilCheck rfl rfl) rfl rfl rfl rfl ?_
 refine FA.op (O.fieldAddr rfl rfl) rfl rfl rfl rfl ?_
 refine FA.op (O.load rfl rfl (by repeat(exact List.Mem.head _)) (by rfl)) rfl rfl rfl rfl ?_
 refine FA.op (O.lenR rfl rfl) rfl rfl rfl rfl ?_
 refine FA.op (O.geq rfl rfl rfl (by rfl)) rfl rfl rfl rfl ?_
 refine FA.nil ?_
 simp only[a0f,cN,cA,cP]
 refine AO.nil ?_
 refine AQ.thenN ?_
 refine AW.split rfl (fun h=> ?_) (fun h=> ?_)
 ·have h: ¬k<l.length:=by have:=of_decide_eq_true h;omega
  refine AW.seq ?_
  refine AW.region ?_
  refine AO.op (O.assign rfl rfl) rfl rfl rfl ?_
  refine AO.nil ?_
  refine AQ.thenN ?_
  refine AW.ret ?_
  refine AQ.thenR ?_
  have e1:nxt l k n=0:=by simp only[nxt,if_neg h]
  have e2:adv l k=k:=by simp only[adv,if_neg h]
  refine AQ.ret1 rfl rfl ⟨_,by repeat(first|exact List.Sublist.slnil|refine List.Sublist.cons_cons _ ?_),List.Perm.refl _⟩ (⟨congrArg (fun z=>AV.val (.int .i64 z)) e1.symm,congrArg (fun z=> [f0Z b l z]) e2.symm⟩)
 ·have h:k<l.length:=by have:=of_decide_eq_false h;omega
  refine AW.skip ?_
  refine AQ.thenN ?_
  refine AW.seq ?_
  refine AW.region ?_
  refine AO.op (O.move rfl rfl) rfl rfl rfl ?_
  refine AO.op (O.nilCheck rfl rfl) rfl rfl rfl ?_
  refine AO.op (O.fieldAddr rfl rfl) rfl rfl rfl ?_
  refine AO.op (O.load rfl rfl (by repeat(exact List.Mem.head _)) (by rfl)) rfl rfl rfl ?_
  refine AO.op (O.add rfl rfl rfl (by exact e0h (by omega))) rfl rfl rfl ?_
  refine AO.op (O.nilCheck rfl rfl) rfl rfl rfl ?_
  refine AO.op (O.fieldAddr rfl rfl) rfl rfl rfl ?_
  (refine AO.store (i:=0) rfl rfl rfl rfl rfl rfl (by rfl) (by rfl) (by rfl) (by(dsimp only[List.set,List.append,cA,cN,a0d,a0n,AV.cells,List.map,List.map_cons,List.map_nil,List.take,List.drop,Nat.zero_add,Nat.add_zero,Nat.reduceAdd,Nat.reduceMul,Nat.zero_mul,Value.cells,List.toList_toArray,a0p,List.replicate,List.flatten,cP];done)) (by(dsimp only[List.set,List.append,cA,cN,a0d,a0n,AV.cells,List.map,List.map_cons,List.map_nil,List.take,List.drop,Nat.zero_add,Nat.add_zero,Nat.reduceAdd,Nat.reduceMul,Nat.zero_mul,Value.cells,List.toList_toArray,a0p,List.replicate,List.flatten,cP];done)) ?_)
  refine AO.nil ?_
  refine AQ.thenN ?_
  refine AW.seq ?_
  refine AW.regionD 14 (by kernel_rfl) (by kernel_rfl) ?_
  simp only[cT,cZ,cD,cO]
  refine FA.op (O.move rfl rfl) rfl rfl rfl rfl ?_
  refine FA.op (O.nilCheck rfl rfl) rfl rfl rfl rfl ?_
  refine FA.op (O.fieldAddr rfl rfl) rfl rfl rfl rfl ?_
  refine FA.op (O.load rfl rfl (by repeat(exact List.Mem.head _)) (by rfl)) rfl rfl rfl rfl ?_
  refine FA.op (O.move rfl rfl) rfl rfl rfl rfl ?_
  refine FA.op (O.nilCheck rfl rfl) rfl rfl rfl rfl ?_
  refine FA.op (O.fieldAddr rfl rfl) rfl rfl rfl rfl ?_
  refine FA.op (O.load rfl rfl (by repeat(exact List.Mem.head _)) (by rfl)) rfl rfl rfl rfl ?_
  refine FA.op (O.sub rfl rfl rfl (by exact e0h (by omega))) rfl rfl rfl rfl ?_
  refine FA.op (O.idxR rfl rfl rfl ⟨(by omega),(by omega)⟩) rfl rfl rfl rfl ?_
  refine FA.op (O.loadR rfl rfl (by exact q0e (by assumption) (by omega))) rfl rfl rfl rfl ?_
  refine FA.op (O.move rfl rfl) rfl rfl rfl rfl ?_
  refine FA.op (O.call rfl Tryz.func82 rfl rfl rfl (mod_fn _ _ hn1 hn2)) rfl rfl rfl rfl ?_
  refine FA.op (O.assign rfl rfl) rfl rfl rfl rfl ?_
  refine FA.nil ?_
  simp only[a0f,cN,cA,cP]
  refine AO.nil ?_
  refine AQ.thenN ?_
  refine AW.ret ?_
  have e1:nxt l k n=l.getD k 0%n:=by simp only[nxt,if_pos h]
  have e2:adv l k=k+1:=by simp only[adv,if_pos h]
  refine AQ.ret1 rfl rfl ⟨_,by repeat(first|exact List.Sublist.slnil|refine List.Sublist.cons_cons _ ?_),List.Perm.refl _⟩ (⟨congrArg (fun z=>AV.val (.int .i64 z)) e1.symm,congrArg (fun z=> [f0Z b l z]) e2.symm⟩)
end Go.Proofs.YtojomcdjcpmnkaaGreat.Dk
namespace Go.Proofs.YtojomcdjcpmnkaaGreat.By
open Go.RowKit L A
attribute [local irreducible] AW AQ AO
section
variable {α:Type}{f:α→List AV}{k:Nat}
theorem h0F (hf: ∀a,(f a).length=k): ∀l:List α,(l.flatMap f).length=l.length*k
 | []=>by simp
 |a::l=>by rw[List.flatMap_cons,cH,hf,h0F hf l,cL,Nat.add_mul];omega
theorem i0B (hf: ∀a,(f a).length=k): ∀(l:List α) (n:Nat),(l.flatMap f).take (n*k)=(l.take n).flatMap f
 | [],n=>by simp
 |a::l,0=>by simp
 |a::l,n+1=>by
  rw[List.flatMap_cons,cT,List.flatMap_cons,←i0B hf l n,show(n+1)*k=(f a).length+n*k by rw[hf,Nat.add_mul];omega,List.take_length_add_append]
theorem f0N (hf: ∀a,(f a).length=k): ∀(l:List α) (n:Nat),(l.flatMap f).drop (n*k)=(l.drop n).flatMap f
 | [],n=>by simp
 |a::l,0=>by simp
 |a::l,n+1=>by
  rw[List.flatMap_cons,cD,←f0N hf l n,show(n+1)*k=(f a).length+n*k by rw[hf,Nat.add_mul];omega,List.drop_length_add_append]
theorem f0O (hf: ∀a,(f a).length=k)(d:α){l:List α}{i:Nat}(h:i<l.length){j:Nat}(hj:j=i):((l.flatMap f).drop (j*k)).take k=f (l.getD i d):=by
 subst hj
 rw[f0N hf,List.drop_eq_getElem_cons h,List.flatMap_cons,List.take_left' (hf _)]
 simp[h]
theorem i0D (hf: ∀a,(f a).length=k)(d:α){l:List α}{i c:Nat}(h:i<l.length)(hc:c<k){j:Nat}(hj:j=i*k+c):(l.flatMap f)[j]? =(f (l.getD i d))[c]? :=by
 have:=f0O hf d h rfl
 rw[←this,List.getElem?_take,if_pos hc,List.getElem?_drop,hj]
theorem p0C (l m:List α):(l++m).flatMap f=l.flatMap f++m.flatMap f:=List.flatMap_append
theorem i0C (l:List α)(a:α):(l++[a]).flatMap f=l.flatMap f++f a:=by simp[List.flatMap_append]
theorem a0g (d:α){l:List α}{i:Nat}(h:i<l.length):l.take (i+1)=l.take i++[l.getD i d]:=by
 rw[List.take_succ_eq_append_getElem h];simp[h]
theorem i0I (d:α){l:List α}{i:Nat}(h:i<l.length):l.drop i=l.getD i d::l.drop (i+1):=by
 rw[List.drop_eq_getElem_cons h];simp[h]
theorem b0f (d:α){l:List α}{i:Nat}(h:i<l.length):l.getD i d∈l:=by simp[h]
end
theorem g0a {p:Prop}[Decidable p]{b:Bool}(h:p↔b=true):decide p=b:=by
 cases b
 ·exact decide_eq_false fun hp=>by have:=h.1 hp;cases this
 exact decide_eq_true (h.2 rfl)
abbrev bt (l:List UInt8)(k:Nat):UInt8:=l.getD k 0
theorem b0d {l:List UInt8}{k:Nat}(h:k<l.length){j:Nat}(hj:j=k):(a0a l)[j]? =some (.val (.int .u8 ((bt l k).toNat:Int))):=by
 subst hj;simp[a0a,h,bt]
theorem b0u (x:UInt8):0≤(x.toNat:Int)∧(x.toNat:Int)<256:=by have:=x.toNat_lt;omega
theorem u8_eq {x y:UInt8}:(x.toNat:Int)=(y.toNat:Int)↔x=y:=by
 rw[Int.ofNat_inj];exact UInt8.toNat_inj
theorem h0f (x:UInt8):u8 (x.toNat:Int)=x:=by
 have h:=b0u x
 unfold u8
 rw[Int.emod_eq_of_lt h.1 h.2]
 simp
theorem s0T (x y:Int)(h:x%256=y%256):u8 x=u8 y:=by unfold u8;rw[h]
theorem a0F {x:Int}(h:0≤x∧x<256):((u8 x).toNat:Int)=x:=by rw[c0d];omega
theorem b0l {n:Nat}{xs:List AV}{l:List UInt8}(h1:n=l.length)(h2:xs=a0a l):AV.ro false n xs=roB l:=by subst h1;subst h2;rfl
theorem f0Y {l:List UInt8}{k:Nat}(h:k<l.length):l.drop k=bt l k::l.drop (k+1):=i0I 0 h
theorem j0f {l:List UInt8}{k:Nat}(h:k<l.length):l.take (k+1)=l.take k++[bt l k]:=a0g 0 h
theorem j0P (l:List UInt8)(n:Nat):(a0a l).take (n*1)=a0a (l.take n):=by simp[a0a,List.map_take]
theorem j0Q (l:List UInt8)(n:Nat):(a0a l).drop (n*1)=a0a (l.drop n):=by simp[a0a,List.map_drop]
theorem g0e {l:List UInt8}{a c n m:Nat}(h:a=n)(h2:c=m):((a0a l).drop (a*1)).take (c*1)=a0a ((l.drop n).take m):=by subst h;subst h2;simp[a0a,List.map_drop,List.map_take]
@[simp] theorem q0V (l:List UInt8) (n:Nat):(a0a l).take n=a0a (l.take n):=by simp[a0a,List.map_take]
@[simp] theorem s0f (l:List UInt8) (n:Nat):(a0a l).drop n=a0a (l.drop n):=by simp[a0a,List.map_drop]
section
variable {P:Program}{E:Env}{H:List HE}{N:Nat}{o:Oper}
theorem _root_.Go.Proofs.YtojomcdjcpmnkaaGreat.A.O.sliceToB {T:Nat}{x y:Operand}{k:Nat}{kk:IntKind}{z:Int}{l:List UInt8}{U bs:Nat}{zz:Value}[hs:TyS P T U 1 bs zz](ho:o.op= .slice T x none (some y) none)(hx:ev E x=some (roB l))(hy:ev E y=some (.val (.int kk z)))(hz:z=(k:Int))(hk:k≤l.length):OpW P N o E H (Is (roB (l.take k))):=by
 have:=O.sliceTo (P:=P) (k:=k) (H:=H) (N:=N) ho hx hy hz hk (j0P l k)
 rwa [b0l (by simp;omega) rfl]at this
theorem _root_.Go.Proofs.YtojomcdjcpmnkaaGreat.A.O.sliceFromB {T:Nat}{x y:Operand}{k:Nat}{kk:IntKind}{z:Int}{l:List UInt8}{U bs:Nat}{zz:Value}[hs:TyS P T U 1 bs zz](ho:o.op= .slice T x (some y) none none)(hx:ev E x=some (roB l))(hy:ev E y=some (.val (.int kk z)))(hz:z=(k:Int))(hk:k≤l.length):OpW P N o E H (Is (roB (l.drop k))):=by
 have:=O.sliceFrom (P:=P) (k:=k) (H:=H) (N:=N) ho hx hy hz hk (by simp) (j0Q l k)
 rwa [b0l (by simp) rfl]at this
theorem _root_.Go.Proofs.YtojomcdjcpmnkaaGreat.A.O.sliceLHB {T:Nat}{x y y':Operand}{lo hi:Nat}{kk kk':IntKind}{z z':Int}{l:List UInt8}{U bs:Nat}{zz:Value}[hs:TyS P T U 1 bs zz](ho:o.op= .slice T x (some y) (some y') none)(hx:ev E x=some (roB l))(hy:ev E y=some (.val (.int kk z)))(hy':ev E y'=some (.val (.int kk' z')))(hz:z=(lo:Int))(hz':z'=(hi:Int))(hlh:lo≤hi)(hhn:hi≤l.length):OpW P N o E H (Is (roB ((l.drop lo).take (hi-lo)))):=by
 have:=O.sliceLH (P:=P) (l:=lo) (h:=hi) (H:=H) (N:=N) ho hx hy hy' hz hz' hlh hhn (g0e rfl rfl)
 rwa [b0l (by simp;omega) rfl]at this
end
structure Opt where
 num:Int
 val:List UInt8
 deriving DecidableEq
structure Msg where
 ty:Int
 code:Int
 id:Int
 tok:List UInt8
 opts:List Opt
 pay:List UInt8
 deriving DecidableEq
def Opt.none:Opt:=⟨0,[]⟩
def Msg.none:Msg:=⟨0,0,0,[],[],[]⟩
def n0Y (o:Opt):List AV:= [.val (.int .i64 o.num),roB o.val]
theorem b0T (o:Opt):(n0Y o).length=2:=rfl
def a0x (os:List Opt):List AV:=os.flatMap n0Y
def roO (os:List Opt):AV:= .ro false os.length (a0x os)
def u0b (m:Msg):List AV:= [.val (.int .i64 m.ty),.val (.int .i64 m.code),.val (.int .i64 m.id),roB m.tok,roO m.opts,roB m.pay]
abbrev a0U (m:Msg):AV:= .agg [.val (.int .i64 m.ty),.val (.int .i64 m.code),.val (.int .i64 m.id),roB m.tok,roO m.opts,roB m.pay]
abbrev v0V (o:Opt):AV:= .agg [.val (.int .i64 o.num),roB o.val]
theorem a0r (l:List UInt8):(roB l).cells= [roB l]:=rfl
theorem a0q (l:List Int):(roI l).cells= [roI l]:=rfl
theorem a0w (l:List Opt):(roO l).cells= [roO l]:=rfl
abbrev oat (os:List Opt)(k:Nat):Opt:=os.getD k Opt.none
@[simp] theorem n0j (os:List Opt):(a0x os).length=os.length*2:=h0F b0T os
theorem f0D (a b:List Opt):a0x (a++b)=a0x a++a0x b:=p0C a b
theorem a0y (a:List Opt)(o:Opt):a0x (a++[o])=a0x a++[.val (.int .i64 o.num),roB o.val]:=i0C a o
theorem b0J (os:List Opt):(a0x os).all AV.one=true:=by
 induction os with
 |nil=>rfl
 |cons o os ih=>rw[a0x,List.flatMap_cons,List.all_append];rw[a0x]at ih;rw[ih];rfl
theorem v0G {os:List Opt}{k:Nat}(h:k<os.length){j:Nat}(hj:j=k):((a0x os).drop (j*2)).take 2= [.val (.int .i64 (oat os k).num),roB (oat os k).val]:=f0O b0T Opt.none h hj
theorem s0d {os:List Opt}{k:Nat}(h:k<os.length){j:Nat}(hj:j=k*2):(a0x os)[j]? =some (.val (.int .i64 (oat os k).num)):=i0D b0T Opt.none h (c:=0) (by omega) hj
theorem v0g {os:List Opt}{k:Nat}(h:k<os.length){j:Nat}(hj:j=k*2+1):(a0x os)[j]? =some (roB (oat os k).val):=i0D b0T Opt.none h (c:=1) (by omega) hj
end Go.Proofs.YtojomcdjcpmnkaaGreat.By
namespace Go.Proofs.YtojomcdjcpmnkaaGreat.By
open Go.RowKit L A
inductive It where
 |mk (k n:Int) (b:List UInt8) (l:List It)
abbrev hnI (k n:Int)(b:List UInt8)(m:Nat):Int:=if k=2∨k=3 then(b.length:Int)else if k=4 then(m:Int)else n
mutual
def It.cells:It→List AV
 | .mk k n b l=> [.val (.int .i64 k),.val (.int .u64 n),roB b,.ro false l.length (d0U l)]
def d0U:List It→List AV
 | []=> []
 |x::l=>x.cells++d0U l
end
mutual
def It.nodes:It→Nat
 | .mk _ _ _ l=>1+q0k l
def q0k:List It→Nat
 | []=>0
 |x::l=>x.nodes+q0k l
end
mutual
def It.enc:It→List UInt8
 | .mk k n b l=>u8 (32*k+hnI k n b l.length)::(b++c0b l)
def c0b:List It→List UInt8
 | []=> []
 |x::l=>x.enc++c0b l
end
theorem h0E (l:List It):d0U l=l.flatMap It.cells:=by
 induction l with
 |nil=>rw[d0U];rfl
 |cons x l ih=>rw[d0U,ih,List.flatMap_cons]
theorem i0R (x:It):x.cells.length=4:=by cases x;rw[It.cells];rfl
theorem g0U (l:List It)(x:It):c0b (l++[x])=c0b l++x.enc:=by
 induction l with
 |nil=>simp[c0b]
 |cons y l ih=>simp[c0b,ih]
theorem f0X (l m:List It):c0b (l++m)=c0b l++c0b m:=by
 induction l with
 |nil=>simp[c0b]
 |cons y l ih=>simp[c0b,ih]
def itN:It:= .mk 0 0 [] []
abbrev o0t (l:List It)(k:Nat):It:=l.getD k itN
theorem t0O {l:List It}{k:Nat}(h:k<l.length){j:Nat}(hj:j=k):((d0U l).drop (j*4)).take 4=(o0t l k).cells:=by
 rw[h0E];exact f0O i0R itN h hj
theorem p0u (l:List It):(d0U l).length=l.length*4:=by rw[h0E];exact h0F i0R l
theorem d0k {k n:Int}{b:List UInt8}:(It.mk k n b []).enc=u8 (32*k+hnI k n b 0)::b:=by
 rw[It.enc,c0b,cP];rfl
theorem j0H {n:Int}{l:List It}:(It.mk 4 n [] l).enc=u8 (32*4+(l.length:Int))::c0b l:=by
 rw[It.enc];rfl
end Go.Proofs.YtojomcdjcpmnkaaGreat.By
namespace Go.Proofs.YtojomcdjcpmnkaaGreat.A
open Go.RowKit L
section
variable {Γ:Cx}{P:Program}{Q:Exit→Act→World→Prop}{E:Env}{H:List HE}
theorem G.freezeK {X:Act→World→Prop}(i:Nat){v:Value}{T sz n:Nat}{xs:List AV}(hi:H[i]? =some (.row v T sz n xs))
  (k: ∀R a W,RelS Γ R (H.eraseIdx i) W→RelA Γ.N R W E a→RelV R W (.ro false n xs) v→X a W):G Γ E H X:=fun R a W hs ha=>by
 have hmem:=List.mem_of_getElem? hi
 obtain⟨hlt,he⟩:=List.getElem?_eq_some_iff.1 hi
 have hsub:(H.eraseIdx i).Sublist H:=List.eraseIdx_sublist _ _
 have hdis: ∀f∈H.eraseIdx i,∀b,f.foot b→ ¬(HE.row v T sz n xs).foot b:=fun f hf b hb hb'=>by
  obtain⟨j,hj,rfl⟩:=List.getElem_of_mem hf
  rw[List.getElem_eraseIdx]at hb
  rw[List.length_eraseIdx,if_pos hlt]at hj
  split at hb
  ·exact(List.pairwise_iff_getElem.1 hs.disj j i (by omega) hlt (by omega)) b hb (by rw[he];exact hb')
  ·exact(List.pairwise_iff_getElem.1 hs.disj i (j+1) hlt (by omega) (by omega)) b (by rw[he];exact hb') hb
 have hRS: ∀b,R b→R b∨(HE.row v T sz n xs).foot b:=fun b h=> .inl h
 obtain⟨us,hown,hr⟩:=hs.ok _ hmem
 refine k (fun b=>R b∨(HE.row v T sz n xs).foot b) a W ⟨hs.mods,?_,fun b hb=> .inl (hs.rsub b hb),?_,fun e he=>HE.ok_mono hRS (fun _ _=>rfl) (Nat.le_refl _) (fun _ _=>rfl) (hs.ok e (hsub.subset he)),?_,hs.disj.sublist hsub⟩ (ha.mono hRS (fun _ _=>rfl)) ?_
 ·rintro b (hb|hb)
  ·exact hs.rlt b hb
  ·exact HE.ok_lt (hs.ok _ hmem) hb
 ·rintro b (hb|hb)
  ·exact hs.rnew b hb
  ·exact .inr (hs.own _ hmem b hb).1
 ·intro e he b hb
  refine⟨(hs.own e (hsub.subset he) b hb).1,?_⟩
  rintro(h|h)
  ·exact(hs.own e (hsub.subset he) b hb).2 h
  ·exact hdis e he b hb h
 ·have hr':=hr.mono hRS (W':=W) (fun _ _=>rfl)
  rcases hown.2 with⟨rfl,rfl⟩|⟨g,cap,cur,rfl,hbg,hg,h1,h2,h3,h4⟩
  ·have:xs= []:=List.eq_nil_of_length_eq_zero (by rw[←hr.1,hown.1];simp)
   subst this
   exact .emp _ _ _ (fun h=>by cases h) (Nat.zero_le _)
  ·refine .ro false n xs g 0 cap (fun j=>us.getD j undef) (.inr rfl) (fun j hj=> ?_) (fun j hj=>hr'.2 j hj) h1 h2 (fun h=>by cases h)
   have hj':j<us.length:=by rw[hr.1];exact hj
   have:=hown.cells (g:=g) rfl j us[j] (by simp[hj'])
   rw[a0K]at this
   rw[this]
   simp[List.getD,hj']
theorem G.freezeCell {X:Act→World→Prop}(i j c:Nat){v:Value}{T sz n:Nat}{xs:List AV}{b T' room:Nat}{ys:List AV}(hi:H[i]? =some (.row v T sz n xs))(hj:(H.eraseIdx i)[j]? =some (.blk b T' room ys))(hc:ys[c]? =some (.val v))
  (k:G Γ E ((H.eraseIdx i).set j (.blk b T' room (ys.set c (.ro false n xs)))) X):G Γ E H X:=G.freezeK i hi fun R a W hs ha hv=>by
 obtain⟨us,cs,h1,h2,h3,h4⟩:=hs.ok _ (List.mem_of_getElem? hj)
 obtain⟨u,hu1,hu2⟩:=h4.get hc
 have hu3:=hu2.val_inv
 subst hu3
 refine k R a W (hs.setSame hj (fun b hb=>hb) ⟨us,cs,h1,h2,by rw[List.length_set];exact h3,?_⟩) ha
 have h5:=h4.set c hv
 rwa [show us.set c u=us from List.ext_getElem? fun q=>by
  rcases Nat.decEq c q with h|h
  ·rw[List.getElem?_set_ne h]
  ·subst h;rw[List.getElem?_set_self (List.getElem?_eq_some_iff.1 hu1).1,hu1]]at h5
theorem G.coeCell {X:Act→World→Prop}(j c:Nat){b T' room:Nat}{ys:List AV}{u w:AV}(hj:H[j]? =some (.blk b T' room ys))(hc:ys[c]? =some u)(hw:Coe u w)
  (k:G Γ E (H.set j (.blk b T' room (ys.set c w))) X):G Γ E H X:=fun R a W hs ha=>by
 obtain⟨us,cs,h1,h2,h3,h4⟩:=hs.ok _ (List.mem_of_getElem? hj)
 obtain⟨z,hu1,hu2⟩:=h4.get hc
 refine k R a W (hs.setSame hj (fun b hb=>hb) ⟨us,cs,h1,h2,by rw[List.length_set];exact h3,?_⟩) ha
 have h5:=h4.set c (hw R W _ hu2)
 rwa [show us.set c z=us from List.ext_getElem? fun q=>by
  rcases Nat.decEq c q with h|h
  ·rw[List.getElem?_set_ne h]
  ·subst h;rw[List.getElem?_set_self (List.getElem?_eq_some_iff.1 hu1).1,hu1]]at h5
end
section
variable {P:Program}{ops:Array Oper}{N:Nat}
structure MJ (P:Program) (Γ:Cx) (ops:Array Oper) (Hs:List HE) (K:Env→List HE→Prop) (ord:List (Nat×Bool)) (late:List Nat) (listed:Array Bool) (A:Act) (W:World) (pre ms:List (Nat×Bool)) (Pd:List Nat) (E:Env) (H:List HE) (R:Nat→Prop):Prop where
 size:listed.size=ops.size
 closed:c0u ops listed
 part: ∀i,i<ops.size→(listed.getD i false=false↔i∈Pd∨i∈ms.map Prod.fst∨i∈late)
 ord:ord=pre++ms
 pdp: ∀i∈Pd,(i,false)∈pre
 am:AM P Γ.N ops Hs K ms E H
 pend: ∀i∈Pd,∃o d v,ops[i]? =some o∧o.dst=some d∧d<Γ.N∧a0t E d=some v∧OpF P Γ.N ops o (rst E (o.looksAt ops)) Hs (Is v)
 rels:RelS Γ R (H++Hs) W
 defers:A.defers= []
 tmps:A.tmps.size=Γ.N
 act: ∀t v,a0t E t=some v→(∀i∈Pd,∀o,ops[i]? =some o→o.dst≠some t)→RelV R W v (A.eval (.tmp t))
variable {Γ:Cx}{Hs:List HE}{K:Env→List HE→Prop}{ord:List (Nat×Bool)}{late:List Nat}
theorem MJ.absorb {listed:Array Bool}{A:Act}{W:World}{R:Nat→Prop}(hok:a0Z ops (c0M ops.toList []) ord=true): ∀(ms pre:List (Nat×Bool)) (Pd:List Nat) (E:Env) (H:List HE),MJ P Γ ops Hs K ord late listed A W pre ms Pd E H R→
  ∃pre' ms' Pd' E',MJ P Γ ops Hs K ord late listed A W pre' ms' Pd' E' H R∧(ms'= []∨ ∃m r,ms'=(m,true)::r)
 | [],pre,Pd,E,H,h=>⟨pre,[],Pd,E,h,.inl rfl⟩
 |(m,true)::r,pre,Pd,E,H,h=>⟨pre,_,Pd,E,h,.inr ⟨m,r,rfl⟩⟩
 | (j,false)::r,pre,Pd,E,H,h=>by
  obtain⟨o,d,v,ho,hd,hN,hop,ham⟩:=h.am
  have hord:=h.ord
  have hq:=a0l (pre:=pre) (r:=(j,false)::r) (by rw[←hord];exact hok)
  have hself:d∉o.looksAt ops:=by
   have:=hq.1
   rw[a0Z]at this
   simp only[Bool.and_eq_true,ho,hd,Bool.false_or]at this
   simpa using this.1.1
  have hp: ∀i∈Pd,∀oi,ops[i]? =some oi→d∉oi.looksAt ops∧oi.dst≠some d:=fun i hi oi hoi=>by
   have:=b0D (hq.2 _ (h.pdp i hi) (j,false) (List.mem_cons_self ..)) hoi ho
   obtain⟨d',h1,h2,h3⟩:=this.flt rfl
   rw[hd]at h1
   cases h1
   exact⟨h2,h3⟩
  refine MJ.absorb hok r (pre++[(j,false)]) (j::Pd) ((d,v)::E) H ⟨h.size,h.closed,fun i hi=> ?_,by rw[hord];simp,fun i hi=> ?_,ham,fun i hi=> ?_,h.rels,h.defers,h.tmps,fun t x ht hpd=> ?_⟩
  ·rw[h.part i hi]
   simp only[List.map_cons,List.mem_cons]
   constructor
   ·rintro(h|(h|h)|h)
    ·exact .inl (.inr h)
    ·exact .inl (.inl h)
    ·exact .inr (.inl h)
    ·exact .inr (.inr h)
   ·rintro((h|h)|h|h)
    ·exact .inr (.inl (.inl h))
    ·exact .inl h
    ·exact .inr (.inl (.inr h))
    ·exact .inr (.inr h)
  ·rcases List.mem_cons.1 hi with rfl|hi
   ·simp
   ·exact List.mem_append_left _ (h.pdp i hi)
  ·rcases List.mem_cons.1 hi with rfl|hi
   ·exact⟨o,d,v,ho,hd,hN,b0p,by rw[b0e hself];exact hop⟩
   ·obtain⟨oi,di,vi,h1,h2,h3,h4,h5⟩:=h.pend i hi
    obtain⟨h6,h7⟩:=hp i hi oi h1
    refine⟨oi,di,vi,h1,h2,h3,?_,by rw[b0e h6];exact h5⟩
    rw[a0L (fun e=>h7 (by rw[h2,e]))];exact h4
  ·have hne:d≠t:=fun e=>hpd j (List.mem_cons_self ..) o ho (by rw[hd,e])
   rw[a0L hne]at ht
   exact h.act t x ht fun i hi=>hpd i (List.mem_cons_of_mem _ hi)
theorem MJ.reads {listed:Array Bool}{A:Act}{W:World}{R:Nat→Prop}{pre ms:List (Nat×Bool)}{Pd:List Nat}{E:Env}{H:List HE}(hok:a0Z ops (c0M ops.toList []) ord=true)(h:MJ P Γ ops Hs K ord late listed A W pre ms Pd E H R)
  {i:Nat} {b:Bool} {o:Oper} (ho:ops[i]? =some o) (hdeps: ∀e∈o.after,Region.binds .any e=true→listed.getD e.on false=true) (hi:(i,b)∈pre∧i∈Pd∧b=false∨ ∃r,ms=(i,b)::r):RelA Γ.N R W (rst E (o.looksAt ops)) A:=by
 refine⟨h.defers,h.tmps,fun t v ht=> ?_⟩
 obtain⟨htl,ht⟩:=c0E ht
 refine h.act t v ht fun k hk ok hok' hdk=> ?_
 have hkp:=h.pdp k hk
 have hkf:listed.getD k false=false:=(h.part k (Array.getElem?_eq_some_iff.1 hok').1).2 (.inl hk)
 have direct:e0u ops (c0M ops.toList []) k false i b=true→False:=fun hp=>by
  obtain⟨e,he,hb,hon⟩:=(b0D hp hok' ho).reads t hdk htl
  have:=hdeps e he hb
  rw[hon,hkf]at this;cases this
 rcases hi with⟨hip,hiP,rfl⟩|⟨r,hms⟩
 ·
  obtain⟨p1,p2,hp12⟩:=List.append_of_mem hkp
  have hord:=h.ord
  rw[hp12,List.append_assoc]at hord
  rw[hp12]at hip
  rcases List.mem_append.1 hip with hip|hip
  ·
   have hq:=a0l (pre:=p1) (by rw[←hord];exact hok)
   have:=b0D (hq.2 _ hip (k,false) (List.mem_cons_self ..)) ho hok'
   obtain⟨d',h1,h2, -⟩:=this.flt rfl
   rw[hdk]at h1;cases h1
   exact h2 htl
  ·rcases List.mem_cons.1 hip with he|hip
   ·cases he
    have hq:=(a0l (pre:=p1) (by rw[←hord];exact hok)).1
    rw[cA,a0Z]at hq
    simp only[Bool.and_eq_true]at hq
    obtain rfl:o=ok:=by rw[ho]at hok';exact Option.some.inj hok'
    have:=hq.1.1
    rw[ho]at this
    simp only[hdk,Bool.false_or]at this
    simp at this
    exact this htl
   ·rw[show p1++((k,false)::p2++ms)=(p1++[(k,false)])++(p2++ms) by simp]at hord
    have hq:=a0l (pre:=p1++[(k,false)]) (by rw[←hord];exact hok)
    exact direct (hq.2 (k,false) (by simp) (i,false) (List.mem_append_left _ hip))
 ·have hq:=a0l (pre:=pre) (r:=ms) (by rw[←h.ord];exact hok)
  exact direct (hq.2 _ hkp (i,b) (by rw[hms];exact List.mem_cons_self ..))
theorem MJ.stage {Q:Exit→Act→World→Prop}(hback: ∀i o,ops[i]? =some o→ ∀e∈o.after,Region.binds .any e=true→e.on<i)(hpairs:a0Z ops (c0M ops.toList []) ord=true)(hlt: ∀q∈ord,q.1<ops.size)
  (hlate: ∀j∈late,∀q∈ord,q.1∈(c0M ops.toList []).getD j [])
  (hfin: ∀(listed:Array Bool) (A:Act) (W:World) (E:Env) (H:List HE) (R:Nat→Prop),listed.size=ops.size→c0u ops listed→(∀i,i<ops.size→(listed.getD i false=false↔i∈late))→RelS Γ R (H++Hs) W→RelA Γ.N R W E A→K E H→wpAny P .any ops Q (listed.toList.count false) listed A W):
  ∀(fuel:Nat) (listed:Array Bool) (A:Act) (W:World) (pre ms:List (Nat×Bool)) (Pd:List Nat) (E:Env) (H:List HE) (R:Nat→Prop),fuel=listed.toList.count false→
   MJ P Γ ops Hs K ord late listed A W pre ms Pd E H R→(ms= []∨ ∃m r,ms=(m,true)::r)→wpAny P .any ops Q fuel listed A W:=by
 intro fuel
 induction fuel with
 | zero=>
  intro listed A W pre ms Pd E H R hc hI hhd
  have hlist: ∀i,i<ops.size→listed.getD i false=true:=by
   intro i hi
   have hi':i<listed.size:=by rw[hI.size];exact hi
   cases hb:listed.getD i false with
   |true=>rfl
   | false=>
    exfalso
    have hm:false∈listed.toList:=by
     rw[←hb];simp[Array.getD,hi']
    have:=List.count_pos_iff.2 hm
    omega
  have hms:ms= []:=by
   rcases hhd with h|⟨m,r,h⟩
   ·exact h
   ·have h1:=hlt (m,true) (by rw[hI.ord,h];simp)
    have:=(hI.part m h1).2 (.inr (.inl (by rw[h];simp)))
    rw[hlist m h1]at this;cases this
  have hPd:Pd= []:=by
   rw[List.eq_nil_iff_forall_not_mem]
   intro i hi
   have h1:=hlt (i,false) (by rw[hI.ord];exact List.mem_append_left _ (hI.pdp i hi))
   have:=(hI.part i h1).2 (.inl hi)
   rw[hlist i h1]at this;cases this
  subst hms
  subst hPd
  rw[hc]
  exact hfin listed A W E H R hI.size hI.closed (fun i hi=>by rw[hI.part i hi];simp) hI.rels ⟨hI.defers,hI.tmps,fun t v ht=>hI.act t v ht fun i hi=>(by cases hi)⟩ hI.am
 | succ fuel ih=>
  intro listed A W pre ms Pd E H R hc hI hhd
  by_cases hemp:ms= []∧Pd= []
  ·obtain⟨rfl,rfl⟩:=hemp
   rw[hc]
   exact hfin listed A W E H R hI.size hI.closed (fun i hi=>by rw[hI.part i hi];simp) hI.rels ⟨hI.defers,hI.tmps,fun t v ht=>hI.act t v ht fun i hi=>(by cases hi)⟩ hI.am
  have hun: ∃q∈ord,listed.getD q.1 false=false:=by
   rcases hhd with h|⟨m,r,h⟩
   ·cases Pd with
    |nil=>exact absurd ⟨h,rfl⟩ hemp
    |cons p Pd=>
     have h1:(p,false)∈ord:=by rw[hI.ord];exact List.mem_append_left _ (hI.pdp p (List.mem_cons_self ..))
     exact⟨_,h1,(hI.part p (hlt _ h1)).2 (.inl (List.mem_cons_self ..))⟩
   ·have h1:(m,true)∈ord:=by rw[hI.ord,h];simp
    exact⟨_,h1,(hI.part m (hlt _ h1)).2 (.inr (.inl (by rw[h];simp)))⟩
  have hne: ∃i,i∈Region.ready .any ops listed:=by
   have hex: ∃i,i<ops.size∧listed.getD i false=false:=by
    have hpos:0<listed.toList.count false:=by omega
    obtain⟨i,hi,hf⟩:=List.getElem_of_mem (List.count_pos_iff.1 hpos)
    have hi':i<listed.size:=by simpa using hi
    exact⟨i,by rw[←hI.size];exact hi',by simpa[Array.getD,hi']using hf⟩
   obtain⟨i,⟨hi,hf⟩,hmin⟩: ∃i,(i<ops.size∧listed.getD i false=false)∧ ∀j,j<i→ ¬(j<ops.size∧listed.getD j false=false):=by
    obtain⟨i,h⟩:=hex
    exact p0r ⟨i,h⟩
   have hio:ops[i]? =some ops[i]:=by simp[hi]
   refine⟨i,mem_ready.2 ⟨by rw[b0q (by rw[hI.size];exact hi)];exact hf,_,hio,fun e he hb=> ?_⟩⟩
   have:=hback i _ hio e he hb
   cases hb2:listed.getD e.on false with
   |true=>rfl
   |false=>exact absurd ⟨by omega,hb2⟩ (hmin e.on this)
  refine⟨fun e=>(by obtain⟨i,hi⟩:=hne;rw[e]at hi;cases hi),fun i hi=> ?_⟩
  obtain⟨h0,o,ho,hdeps⟩:=mem_ready.1 hi
  have hio:i<ops.size:=(Array.getElem?_eq_some_iff.1 ho).1
  have hf:listed.getD i false=false:=by rw[←b0q (by rw[hI.size];exact hio)];exact h0
  have hil:i<listed.size:=by rw[hI.size];exact hio
  have hanc: ∀j,j∈(c0M ops.toList []).getD i []→listed.getD j false=true:=fun j hj=>d0q hI.closed hback i o ho hdeps j hj
  have hcl:=c0t hI.closed ho hil hdeps
  have hcnt:fuel=(listed.setIfInBounds i true).toList.count false:=by
   have hcs:=b0c listed.toList i (by simpa using hil) (by simpa[Array.getD,hil]using hf)
   simp only[Array.toList_setIfInBounds]
   omega
  have hgd: ∀k,k≠i→(listed.setIfInBounds i true).getD k false=listed.getD k false:=fun k hk=>getD_set_ne false (Ne.symm hk)
  have hgi:(listed.setIfInBounds i true).getD i false=true:=by simp[Array.getD,hil]
  have hsz:(listed.setIfInBounds i true).size=ops.size:=by simpa using hI.size
  have hnl:i∉late:=fun h=>by
   obtain⟨q,hq,hqf⟩:=hun
   have:=hanc q.1 (hlate i h q hq)
   rw[hqf]at this;cases this
  rcases(hI.part i hio).1 hf with hPd|hms|hlt'
  ·
   obtain⟨o',d,v,ho',hd,hN,hlk,hop⟩:=hI.pend i hPd
   obtain rfl:o=o':=by rw[ho]at ho';exact Option.some.inj ho'
   have hA:=hI.reads hpairs ho hdeps (b:=false) (.inl ⟨hI.pdp i hPd,hPd,rfl⟩)
   have hs:=hop R A W hI.rels.rlt (fun e he=>hI.rels.ok e (List.mem_append_right _ he)) (fun e he b hb=>(hI.rels.own e (List.mem_append_right _ he) b hb).2) hA
   have hnext: ∀u W',(∃v' Hn R',Is v v' Hn∧Post1 R W v' Hn u W' R')→wpAny P .any ops Q fuel (listed.setIfInBounds i true) (A.put o.dst u) W':=by
    rintro u W' ⟨v',Hn,R',⟨rfl,rfl⟩,hp⟩
    have hnm:i∉ms.map Prod.fst:=fun hm=>by
     obtain⟨⟨j,c⟩,hq,hji⟩:=List.mem_map.1 hm
     have hq2:=(a0l (pre:=pre) (r:=ms) (by rw[←hI.ord];exact hpairs)).2 _ (hI.pdp i hPd) _ hq
     simp only at hji
     subst hji
     exact(b0D hq2 ho ho).ne rfl
    refine ih _ _ _ pre ms (Pd.filter (· ≠i)) E H R' hcnt ⟨hsz,hcl,fun k hk=> ?_,hI.ord,fun k hk=>hI.pdp k (List.mem_filter.1 hk).1,hI.am,fun k hk=>hI.pend k (List.mem_filter.1 hk).1,by simpa using hI.rels.step hp,?_,?_,fun t x ht hpd=> ?_⟩ hhd
    ·by_cases hki:k=i
     ·subst hki
      rw[hgi]
      simp[hnm,hnl]
     ·rw[hgd k hki,hI.part k hk]
      simp[hki]
    ·rw[hd];exact hI.defers
    ·rw[hd];simp[Act.put,hI.tmps]
    ·rw[hd]
     by_cases hdt:d=t
     ·subst hdt
      rw[hlk]at ht
      cases ht
      rw[a0J (by rw[hI.tmps];exact hN)];exact hp.val
     ·rw[a0k hdt]
      refine(hI.act t x ht fun k hk ok hok hdk=> ?_).mono hp.sub (c0Z hp.ext hI.rels.rlt)
      by_cases hki:k=i
      ·subst hki
       rw[ho]at hok
       cases hok
       rw[hd]at hdk
       cases hdk
       exact hdt rfl
      ·exact hpd k (List.mem_filter.2 ⟨hk,by simpa using hki⟩) ok hok hdk
   unfold wpOp
   rw[ho]
   unfold e0V at hs
   show if Region.wanted o (yielded ops A.tmps)=true then _ else _
   split
   ·rename_i hw
    rw[if_pos hw]at hs
    refine .inl (Oper.wp_mono ?_ (b0w hs))
    rintro A' W' ⟨u,rfl,hp⟩
    exact hnext u W' hp
   ·rename_i hw
    rw[if_neg hw]at hs
    exact hnext _ _ hs
  ·
   rcases hhd with rfl|⟨m,r,rfl⟩
   ·cases hms
   have hmlt:m<ops.size:=by have:=hlt (m,true) (by rw[hI.ord];simp);exact this
   have hmf:listed.getD m false=false:=(hI.part m hmlt).2 (.inr (.inl (by simp)))
   have him:i=m:=by
    rcases List.mem_cons.1 hms with h|h
    ·exact h
    ·exfalso
     obtain⟨⟨j,c⟩,hq,hji⟩:=List.mem_map.1 h
     simp only at hji
     subst hji
     have h9:=(a0l (pre:=pre++[(m,true)]) (r:=r) (by have:=hI.ord;rw[List.append_assoc,List.singleton_append,←this];exact hpairs)).2 (m,true) (by simp) _ hq
     have hom:ops[m]? =some ops[m]:=by simp[hmlt]
     have:=hanc m ((b0D h9 hom ho).main rfl)
     rw[hmf]at this;cases this
   subst him
   obtain⟨o',ho',hAO⟩:=hI.am
   obtain rfl:o=o':=by rw[ho]at ho';exact Option.some.inj ho'
   have hA:=hI.reads hpairs ho hdeps (b:=true) (.inr ⟨r,rfl⟩)
   have hs:=hAO W R R A W ⟨Mods.refl _ _,hI.rels.rlt,fun _ h=>h,fun _ h=> .inl h,fun e he=>hI.rels.ok e (List.mem_append_left _ he),fun e he b hb=>⟨.inr ⟨e,he,hb⟩,(hI.rels.own e (List.mem_append_left _ he) b hb).2⟩,(List.pairwise_append.1 hI.rels.disj).1⟩ hA
   have hnext: ∀u W',QS ⟨W,a0D H,R,Γ.N⟩ o.dst (fun v H'=>AM P Γ.N ops Hs K r (a0z o.dst v E) H') .normal (A.put o.dst u) W'→wpAny P .any ops Q fuel (listed.setIfInBounds i true) (A.put o.dst u) W':=by
    rintro u W' ⟨hdf,v,H',R',ham,hsr,hvr⟩
    obtain⟨hrel,hRW⟩:=RelS.part hI.rels hsr
    have hpd: ∀k∈Pd,∀ok,ops[k]? =some ok→ ∀d,o.dst=some d→d∉ok.looksAt ops∧ok.dst≠some d:=fun k hk ok hok d hd=>by
     have h9:=(a0l (pre:=pre) (r:=(i,true)::r) (by rw[←hI.ord];exact hpairs)).2 _ (hI.pdp k hk) (i,true) (List.mem_cons_self ..)
     have hkf:listed.getD k false=false:=(hI.part k (Array.getElem?_eq_some_iff.1 hok).1).2 (.inl hk)
     have hno:k∉(c0M ops.toList []).getD i []:=fun hm=>by
      have:=hanc k hm
      rw[hkf]at this;cases this
     exact⟨fun hm=>hno ((b0D h9 hok ho).mn rfl d hd (.inl hm)),fun he=>hno ((b0D h9 hok ho).mn rfl d hd (.inr he))⟩
    have hnr:i∉r.map Prod.fst:=fun hm=>by
     obtain⟨⟨j,c⟩,hq,hji⟩:=List.mem_map.1 hm
     have h9:=(a0l (pre:=pre++[(i,true)]) (r:=r) (by have:=hI.ord;rw[List.append_assoc,List.singleton_append,←this];exact hpairs)).2 (i,true) (by simp) _ hq
     simp only at hji
     subst hji
     exact(b0D h9 ho ho).ne rfl
    have hnp:i∉Pd:=fun hk=>by
     have h9:=(a0l (pre:=pre) (r:=(i,true)::r) (by rw[←hI.ord];exact hpairs)).2 _ (hI.pdp i hk) (i,true) (List.mem_cons_self ..)
     exact(b0D h9 ho ho).ne rfl
    have hI':MJ P Γ ops Hs K ord late (listed.setIfInBounds i true) (A.put o.dst u) W' (pre++[(i,true)]) r Pd (a0z o.dst v E) H' R':=by
     refine⟨hsz,hcl,fun k hk=> ?_,by rw[hI.ord];simp,fun k hk=>List.mem_append_left _ (hI.pdp k hk),ham,fun k hk=> ?_,hrel,hdf,?_,fun t x ht hp=> ?_⟩
     ·by_cases hki:k=i
      ·subst hki
       rw[hgi]
       simp[hnr,hnp,hnl]
      ·rw[hgd k hki,hI.part k hk]
       simp[hki]
     ·obtain⟨ok,dk,vk,h1,h2,h3,h4,h5⟩:=hI.pend k hk
      refine⟨ok,dk,vk,h1,h2,h3,?_,?_⟩
      ·cases hd:o.dst with
       |none=>exact h4
       |some d=>rw[a0z,a0L (fun e=>(hpd k hk ok h1 d hd).2 (by rw[h2,e]))];exact h4
      ·cases hd:o.dst with
       |none=>exact h5
       |some d=>rw[a0z,b0e (hpd k hk ok h1 d hd).1];exact h5
     ·cases hd:o.dst<;>simp[Act.put,hI.tmps]
     ·cases hd:o.dst with
      |none=>
       rw[hd]at ht
       exact(hI.act t x ht hp).mono hsr.rsub hRW
      | some d=>
       rw[hd,a0z]at ht
       by_cases hdt:d=t
       ·subst hdt
        rw[b0p]at ht
        cases ht
        have:=hvr d hd
        rwa [hd]at this
       ·rw[a0L hdt]at ht
        rw[a0k hdt]
        exact(hI.act t x ht hp).mono hsr.rsub hRW
    obtain⟨pre',ms',Pd',E',hI2,hh2⟩:=hI'.absorb hpairs
    exact ih _ _ _ pre' ms' Pd' E' H' R' hcnt hI2 hh2
   unfold wpOp
   rw[ho]
   unfold wpList at hs
   show if Region.wanted o (yielded ops A.tmps)=true then _ else _
   split
   ·rename_i hw
    rw[if_pos hw]at hs
    refine .inl ?_
    rcases hs with hs|⟨-,a',w',hl⟩
    ·have hs2:o.wp P A W (wpList P ops (QS ⟨W,a0D H,R,Γ.N⟩ o.dst (fun v H'=>AM P Γ.N ops Hs K r (a0z o.dst v E) H')) []) NoQ:=by
      unfold Oper.wp at hs⊢
      revert hs
      cases(execOp A.eval o).run P W with
      | ok n w'=>
       cases n with
       |enter f args=>
        intro hs
        refine Calls.mono hs ?_
        intro e w'' he
        cases e with
        |returned v=>exact he
        |outgrown=>obtain⟨a',w',hl⟩:=he;exact hl.elim
        |_=>exact he.elim
       |_=>exact fun h=>h
      |halt x w'=>cases x<;>exact fun h=>h
     refine Oper.wp_mono ?_ (b0w (Oper.wp_put hs2))
     rintro A' W' ⟨hq,hA'⟩
     have hq':QS ⟨W,a0D H,R,Γ.N⟩ o.dst (fun v H'=>AM P Γ.N ops Hs K r (a0z o.dst v E) H') .normal A' W':=hq
     rcases hA' with⟨u,rfl⟩|hnd
     ·exact hnext u W' hq'
     ·exact absurd hq'.1 hnd
    ·exact hl.elim
   ·rename_i hw
    rw[if_neg hw]at hs
    exact hnext _ _ hs
  ·exact absurd hlt' hnl
def AMS (P:Program)(N:Nat)(ops:Array Oper)(K:Env→List HE→Prop):List (List (Nat×Bool))→Env→List HE→Prop
 | [],E,H=>K E H
 |ord::r,E,H=> ∃Hm Hs,c0i E H Hm Hs∧AM P N ops Hs (fun E' H'=>AMS P N ops K r E' (H'++Hs)) ord E Hm
theorem AMS.go {ord:List (Nat×Bool)}{r:List (List (Nat×Bool))}{E:Env}{H Hm Hs:List HE}(hH:c0i E H Hm Hs)(h:AM P N ops Hs (fun E' H'=>AMS P N ops K r E' (H'++Hs)) ord E Hm):AMS P N ops K (ord::r) E H:=⟨Hm,Hs,hH,h⟩
theorem vc {ord:List (Nat×Bool)}{r:List (List (Nat×Bool))}{E:Env}{H Hm Hs:List HE}(h:AM P N ops Hs (fun E' H'=>AMS P N ops K r E' (H'++Hs)) ord E Hm)(hH:c0i E H Hm Hs:=by exact(a0Y 0 rfl (a0Y 0 rfl a0h))):AMS P N ops K (ord::r) E H:=AMS.go hH h
theorem vO {ord:List (Nat×Bool)}{r:List (List (Nat×Bool))}{E:Env}{H Hm Hs:List HE}(h:AM P N ops Hs (fun E' H'=>AMS P N ops K r E' (H'++Hs)) ord E Hm)(hH:c0i E H Hm Hs:=by exact a0h):AMS P N ops K (ord::r) E H:=AMS.go hH h
theorem AMS.nil {E:Env}{H:List HE}(h:K E H):AMS P N ops K [] E H:=h
def e0X (ops:Array Oper)(an:List (List Nat)):List (List (Nat×Bool))→Bool
 | []=>true
 |ord::r=>a0Z ops an ord&&(ord.all fun q=>decide (q.1<ops.size))&&(r.all fun s=>s.all fun j=>ord.all fun q=>(an.getD j.1 []).contains q.1)&&e0X ops an r
def f0t (ops:Array Oper)(os:List (List (Nat×Bool))):Bool:=
 ((List.range ops.size).all fun i=>os.any fun ord=>ord.any fun q=>q.1==i)&&
 ((List.range ops.size).all fun i=>(ops[i]?).all fun o=>o.after.all fun e=> !Region.binds .any e||decide (e.on<i))&&e0X ops (c0M ops.toList []) os
theorem AMS.run {Q:Exit→Act→World→Prop}(hback: ∀i o,ops[i]? =some o→ ∀e∈o.after,Region.binds .any e=true→e.on<i): ∀(os:List (List (Nat×Bool))),e0X ops (c0M ops.toList []) os=true→
  ∀(listed:Array Bool) (A:Act) (W:World) (E:Env) (H:List HE) (R:Nat→Prop),listed.size=ops.size→c0u ops listed→(∀i,i<ops.size→(listed.getD i false=false↔i∈(os.flatten).map Prod.fst))→RelS Γ R H W→RelA Γ.N R W E A→
   AMS P Γ.N ops (fun E' H'=>AQ Γ Q .normal E' H') os E H→wpAny P .any ops Q (listed.toList.count false) listed A W
 | [],_,listed,A,W,E,H,R,hsz,hcl,hpt,hs,ha,h=>by
  have hlist: ∀i,i<ops.size→listed.getD i false=true:=by
   intro i hi
   cases hb:listed.getD i false with
   |true=>rfl
   |false=>have:=(hpt i hi).1 hb;cases this
  have h0:listed.toList.count false=0:=by
   rw[List.count_eq_zero]
   intro hm
   obtain⟨i,hi,hf⟩:=List.getElem_of_mem hm
   have hi':i<listed.size:=by simpa using hi
   have:=hlist i (by rw[←hsz];exact hi')
   rw[show listed.getD i false=listed[i] by simp[Array.getD,hi']]at this
   rw[show listed.toList[i]=listed[i] by simp,this]at hf
   cases hf
  rw[h0]
  refine⟨?_,h R A W hs ha⟩
  rw[List.eq_nil_iff_forall_not_mem]
  intro i hi
  obtain⟨h0,o,ho,_⟩:=mem_ready.1 hi
  have hi':i<ops.size:=(Array.getElem?_eq_some_iff.1 ho).1
  have:=hlist i hi'
  rw[←b0q (by rw[hsz];exact hi')]at this
  rw[this]at h0;cases h0
 | ord::os,hok,listed,A,W,E,H,R,hsz,hcl,hpt,hs,ha,h=>by
  rw[e0X]at hok
  simp only[Bool.and_eq_true,List.all_eq_true,cQ,List.contains_eq_mem]at hok
  obtain⟨⟨⟨hp,hlt⟩,hlate⟩,hrest⟩:=hok
  obtain⟨Hm,Hs,hH,hAM⟩:=h
  have hI:MJ P Γ ops Hs (fun E' H'=>AMS P Γ.N ops (fun E' H'=>AQ Γ Q .normal E' H') os E' (H'++Hs)) ord (os.flatten.map Prod.fst) listed A W [] ord [] E Hm R:=by
   refine⟨hsz,hcl,fun i hi=> ?_,rfl,fun i hi=>(by cases hi),hAM,fun i hi=>(by cases hi),hs.perm hH.symm,ha.defers,ha.size,fun t v ht _=>ha.slots t v ht⟩
   rw[hpt i hi]
   simp
  obtain⟨pre',ms',Pd',E',hI2,hh2⟩:=hI.absorb hp
  refine MJ.stage hback hp hlt (fun j hj q hq=> ?_) (fun listed A W E H R h1 h2 h3 h4 h5 h6=>AMS.run hback os hrest listed A W E _ R h1 h2 h3 h4 h5 h6) _ listed A W pre' ms' Pd' E' Hm R rfl hI2 hh2
  obtain⟨x,hx,rfl⟩:=List.mem_map.1 hj
  obtain⟨s,hs1,hs2⟩:=List.mem_flatten.1 hx
  exact hlate s hs1 x hs2 q hq
theorem AW.regionS {Q:Exit→Act→World→Prop}{E:Env}{H:List HE}{id:Nat}{l:List Oper}(os:List (List (Nat×Bool)))(hm:P.follows .mixedOrders=true)(hok:f0t l.toArray os=true)
  (h:AMS P Γ.N l.toArray (fun E' H'=>AQ Γ Q .normal E' H') os E H):AW Γ P Q (.region id l.toArray true) E H:=fun R a W hs0 ha0=>by
 obtain⟨ops,hops⟩: ∃ops,ops=l.toArray:=⟨_,rfl⟩
 rw[←hops]at h hok
 simp only[f0t,Bool.and_eq_true,List.all_eq_true,List.mem_range]at hok
 obtain⟨⟨hall,hbk⟩,hst⟩:=hok
 have hback: ∀i o,ops[i]? =some o→ ∀e∈o.after,Region.binds .any e=true→e.on<i:=fun i o ho e he hb=>by
  have hi:i<ops.size:=(Array.getElem?_eq_some_iff.1 ho).1
  have:=hbk i hi
  rw[ho]at this
  simp only[Option.all_some]at this
  have:=Array.all_eq_true_iff_forall_mem.1 this e he
  simpa[hb]using this
 have hs:RelS Γ R H W.drew:=⟨hs0.mods.drew,hs0.rlt,hs0.rsub,hs0.rnew,fun e he=>HE.ok_mono (W:=W) (W':=W.drew) (fun _ h=>h) (fun _ _=>rfl) (Nat.le_refl _) (fun _ _=>rfl) (hs0.ok e he),hs0.own,hs0.disj⟩
 have ha:RelA Γ.N R W.drew E a:=ha0.mono (fun _ h=>h) (fun _ _=>rfl)
 refine wp_region_any hm ?_
 rw[←hops]
 have hc:(Array.replicate ops.size false).toList.count false=ops.size:=by simp
 have:=AMS.run (Γ:=Γ) hback os hst (Array.replicate ops.size false) a W.drew E H R (by simp) (fun i o hl=>by
  exfalso
  by_cases h:i<ops.size<;>simp[Array.getD,h]at hl) (fun i hi=>by
   have:=hall i hi
   simp only[List.any_eq_true,beq_iff_eq]at this
   obtain⟨ord,ho,q,hq,hqi⟩:=this
   constructor
   ·intro _
    exact List.mem_map.2 ⟨q,List.mem_flatten.2 ⟨ord,ho,hq⟩,hqi⟩
   ·intro _
    simp[Array.getD,hi]) hs ha h
 rw[hc]at this
 exact this
theorem vm {Q:Exit→Act→World→Prop}{E:Env}{H:List HE}{id:Nat}{l:List Oper}(os:List (List (Nat×Bool)))(h:AMS P Γ.N l.toArray (fun E' H'=>AQ Γ Q .normal E' H') os E H)(hm:P.follows .mixedOrders=true:=by kernel_rfl)(hok:f0t l.toArray os=true:=by kernel_rfl):AW Γ P Q (.region id l.toArray true) E H:=AW.regionS os hm hok h
end
section
variable {Γ:Cx}{P:Program}{ops:Array Oper}{Q:Exit→Act→World→Prop}{E:Env}{H:List HE}{o:Oper}{rest:List Oper}
theorem j0B {W:World}{b k:Nat}{cs:Array Value}{U:TypeId}(hb:W.heap[b]? =some (.cells cs U (0,0))):
  (W.freeze ⟨b,k,none⟩ 1).heap[b]? =some (.cells cs U (k,k+1))∧(∀q,q≠b→(W.freeze ⟨b,k,none⟩ 1).heap[q]? =W.heap[q]?)∧(W.freeze ⟨b,k,none⟩ 1).heap.size=W.heap.size:=by
 obtain⟨hlt,he⟩:=Array.getElem?_eq_some_iff.1 hb
 unfold World.freeze
 rw[if_neg (by decide)]
 refine⟨?_,fun q hq=> ?_,by simp⟩
 ·simp[Array.getElem?_modify,hb]
 ·simp[Array.getElem?_modify,Ne.symm hq]
theorem AO.constBytes {T U d i b room c n:Nat}{x:Operand}{xs:List AV}{l:List UInt8}[hT:TyD P T (.slice U)][hU:TyD P U (.int .u8)](ho:o.op= .convert T T x)(hgd:o.guard=none)(hd:o.dst=some d)(hN:d<Γ.N)
  (hx:ev E x=some (.val (.slice (some ⟨b,0,none⟩) n c))) (hi:H[i]? =some (.blk b U room xs)) (hl:xs=a0a l) (hn:n=l.length) (hc:n≤c∧c≤maxLen) (next:AO Γ P ops Q rest ((d,roB l)::E) (H.eraseIdx i)):AO Γ P ops Q (o::rest) E H:=fun R a W hs ha=>by
 have hmem:=List.mem_of_getElem? hi
 obtain⟨hlt,he⟩:=List.getElem?_eq_some_iff.1 hi
 obtain⟨us,cs,hb,hsz,ht,hr⟩:=hs.ok _ hmem
 obtain⟨f1,f2,f3⟩:=j0B (k:=cs.size) hb
 have hsh:W.shape? b=some (U,cs.size):=by unfold World.shape?;rw[hb]
 have hrun:(execOp a.eval o).run P W= .ok (.value (.slice (some ⟨b,0,none⟩) n c)) (W.freeze ⟨b,cs.size,none⟩ 1):=by
  simp[execOp,ho,(ha.ev hx).val_inv,convert,run_underlying hT.ax,run_underlying hU.ax,markStringish,hsh]
 have hbR: ¬R b:=(hs.own _ hmem b rfl).2
 have hm:Mods (fun q=>q=b) W (W.freeze ⟨b,cs.size,none⟩ 1):=⟨by unfold World.freeze;rw[if_neg (by decide)],by unfold World.freeze;rw[if_neg (by decide)],by unfold World.freeze;rw[if_neg (by decide)],by rw[f3];exact Nat.le_refl _,fun q hq hqb=>f2 q hqb⟩
 have hW: ∀q,R q→(W.freeze ⟨b,cs.size,none⟩ 1).heap[q]? =W.heap[q]? :=fun q hq=>f2 q fun e=>hbR (e▸hq)
 have hRS: ∀q,R q→R q∨q=b:=fun q h=> .inl h
 have hsub:(H.eraseIdx i).Sublist H:=List.eraseIdx_sublist _ _
 have hdis: ∀f∈H.eraseIdx i,∀q,f.foot q→q≠b:=fun f hf q hq hqb=>by
  obtain⟨j,hj,rfl⟩:=List.getElem_of_mem hf
  rw[List.getElem_eraseIdx]at hq
  rw[List.length_eraseIdx,if_pos hlt]at hj
  split at hq
  ·exact(List.pairwise_iff_getElem.1 hs.disj j i (by omega) hlt (by omega)) q hq (by rw[he];exact hqb)
  ·exact(List.pairwise_iff_getElem.1 hs.disj i (j+1) hlt (by omega) (by omega)) q (by rw[he];exact hqb) hq
 unfold wpList
 rw[if_pos (by unfold Region.wanted;rw[hgd])]
 refine .inl ?_
 unfold Oper.wp
 rw[hrun]
 show wpList P ops Q rest (a.put o.dst _) _
 rw[hd]
 refine next (fun q=>R q∨q=b) _ _ ⟨Mods.then hs.mods hm fun q hq hqb=> ?_,?_,fun q hq=> .inl (hs.rsub q hq),?_,fun e he=>HE.ok_mono hRS hW (by rw[f3];exact Nat.le_refl _) (fun q hq=>f2 q (hdis e he q hq)) (hs.ok e (hsub.subset he)),?_,hs.disj.sublist hsub⟩ ((ha.mono hRS hW).put hN ?_)
 ·rcases(hs.own _ hmem b rfl).1 with h|h
  ·omega
  ·rw[hqb];exact h
 ·rintro q (hq|hq)
  ·rw[f3];exact hs.rlt q hq
  ·rw[f3,hq];exact(Array.getElem?_eq_some_iff.1 hb).1
 ·rintro q (hq|hq)
  ·exact hs.rnew q hq
  ·exact .inr (hq▸(hs.own _ hmem b rfl).1)
 ·intro e he q hq
  refine⟨(hs.own e (hsub.subset he) q hq).1,?_⟩
  rintro(h|h)
  ·exact(hs.own e (hsub.subset he) q hq).2 h
  ·exact hdis e he q hq h
 ·subst hl;subst hn
  have hlen:us.length=l.length:=by rw[hr.1];simp[a0a]
  unfold roB
  refine .ro false l.length (a0a l) b 0 c (fun j=>us.getD j undef) (.inr rfl) (fun j hj=> ?_) (fun j hj=>(hr.mono hRS hW).2 j hj) hc.1 hc.2 (fun h=>by cases h)
  have hj':j<us.length:=by rw[hlen];simpa[a0a]using hj
  have h9:us[j]? =cs[j]? :=by
   rw[←ht,List.getElem?_take,if_pos (by simpa[a0a]using hj)];simp
  simp only[World.cell?,f1,Nat.zero_add]
  have h10:cs[j]? =some us[j]:=by rw[←h9];simp[hj']
  simpa[hj']using h10
end
section
variable {P:Program}{E:Env}{H:List HE}{N:Nat}{o:Oper}
theorem m0b (n:Nat):a0p n (.int .u8 0)=a0a (List.replicate n 0):=by
 rw[a0p,show(Value.int IntKind.u8 0).cells.toList.map AV.val= [AV.val (.int .u8 0)]from rfl,List.flatten_replicate_singleton]
 simp[a0a]
end
section
variable {Γ:Cx}{P:Program}{Q:Exit→Act→World→Prop}{E:Env}{H:List HE}{N:Nat}{o:Oper}{ops:Array Oper}{rest:List Oper}
theorem CoeL.app {a b x y:List AV}(h:CoeL a b)(k:CoeL x y):CoeL (a++x) (b++y):=fun R W us hu=>by
 induction a generalizing b us with
 | nil=>
  have hb:b= []:=by
   have:=(h R W [] RelL.nil).1
   exact List.eq_nil_of_length_eq_zero this.symm
  subst hb
  exact k R W us hu
 |cons u a ih=>
  have h1:us.take (a.length+1)++us.drop (a.length+1)=us:=List.take_append_drop ..
  have h2:=hu.take (a.length+1)
  have h3:=hu.drop (a.length+1)
  rw[show((u::a)++x).take (a.length+1)=u::a by simp]at h2
  rw[show((u::a)++x).drop (a.length+1)=x by simp]at h3
  rw[←h1]
  exact RelL.app (h R W _ h2) (k R W _ h3)
theorem Coe.ro {full:Bool}{n:Nat}{xs ys:List AV}(h:CoeL xs ys):Coe (.ro full n xs) (.ro full n ys):=fun R W u hu=>by
 cases hu with
 |emp _ a cap h1 h2=>
  have hy:ys= []:=List.eq_nil_of_length_eq_zero (h R W [] RelL.nil).1.symm
  subst hy
  exact .emp _ a cap h1 h2
 |ro _ _ _ b off cap us hb hc hr h1 h2 h3=>
  have hl:RelL R W xs ((List.range xs.length).map us):=⟨by simp,fun j hj=>by simpa[hj]using hr j hj⟩
  have hk:=h R W _ hl
  have he:ys.length=xs.length:=by have:=hk.1;simpa using this.symm
  refine .ro _ _ _ b off cap us hb (fun j hj=>hc j (by omega)) (fun j hj=> ?_) h1 h2 h3
  have:=hk.2 j hj
  rw[he]at hj
  simpa[hj]using this
theorem G.coeRow {X:Act→World→Prop}(i:Nat){v:Value}{T sz n:Nat}{xs:List AV}(m:Nat)(ys:List AV)(hi:H[i]? =some (.row v T sz n xs))(hm:n=m)(h:CoeL xs ys)(k:G Γ E (H.set i (.row v T sz m ys)) X):G Γ E H X:=fun R a W hs ha=>by
 subst hm
 obtain⟨us,h1,h2⟩:=hs.ok _ (List.mem_of_getElem? hi)
 exact k R a W (hs.setSame hi (fun b hb=>hb) ⟨us,h1,h R W us h2⟩) ha
theorem O.sliceN {T:Nat}{x:Operand}{low high:Option Operand}{l h:Int}{U sz bs:Nat}{zz:Value}[hs:TyS P T U sz bs zz](ho:o.op= .slice T x low high none)(hx:ev E x=some (.val (.slice none 0 0)))(hl:c0G E low 0=some l)(hh:c0G E high 0=some h)(h0:0≤l∧l≤h∧h≤0):
  OpW P N o E H (Is (.val (.slice none 0 0))):= .of_run fun R a W h1 h2 ha=>by
 obtain⟨i,hi,hi2, -⟩:=hs.el
 have hb:=b0L (P:=P) (W:=W) (cap:=0) ha hl hh h0
 have e1:l=0:=by omega
 have e2:h=0:=by omega
 subst e1
 subst e2
 refine⟨.slice none 0 0,?_,.val _⟩
 simp only[execOp,ho,(ha.ev hx).val_inv,Instr.sliceAt,Instr.slice,run_underlying hs.ty,Sem.run_bind,Result.andThen_ok,hb,sizeOf,typeInfo,hi,hi2,run_program,Sem.run_pure,Option.map_none]
 simp
def s0y (k:Nat):Nat→List (Nat×AV)→Option (List AV)
 |_,[]=>some []
 |i,(j,v)::r=>bif Nat.beq j i&&Nat.beq v.cells.length k then(match s0y k (i+1) r with|some ys=>some (v.cells++ys)|none=>none)else none
theorem g0z: ∀(cs pre zs:List AV),cs.length≤zs.length→a0d (pre++zs) pre.length cs=pre++cs++zs.drop cs.length
 | [],pre,zs,h=>by simp[a0d]
 |c::cs,pre,[],h=>by simp at h
 |c::cs,pre,z::zs,h=>by
  rw[a0d,show(pre++z::zs).set pre.length c=(pre++[c])++zs by simp,show pre.length+1=(pre++[c]).length by simp,g0z cs (pre++[c]) zs (by simpa using h)]
  simp
theorem k0O {k:Nat}: ∀(ps:List (Nat×AV)) (i:Nat) (pre zs ys:List AV),s0y k i ps=some ys→pre.length=i*k→zs.length=ps.length*k→d0u (fun i=>some (i*k,k)) (pre++zs) ps=some (pre++ys)
 | [],i,pre,zs,ys,h,h1,h2=>by
  have:zs= []:=List.eq_nil_of_length_eq_zero (by simpa using h2)
  subst this
  cases h
  rfl
 | (j,v)::r,i,pre,zs,ys,h,h1,h2=>by
  rw[s0y]at h
  cases hc:(Nat.beq j i&&Nat.beq v.cells.length k)with
  |false=>rw[hc]at h;cases h
  | true=>
   rw[hc]at h
   simp only[Bool.and_eq_true]at hc
   have hj:=Nat.eq_of_beq_eq_true hc.1
   have hk:=Nat.eq_of_beq_eq_true hc.2
   subst hj
   cases hr:s0y k (j+1) r with
   |none=>rw[hr]at h;cases h
   | some ys'=>
    rw[hr]at h
    cases h
    have hz:v.cells.length≤zs.length:=by rw[h2,hk,cL,Nat.add_mul];omega
    unfold d0u
    simp only
    have hb:(Nat.beq v.cells.length k&&Nat.ble (j*k+v.cells.length) (pre++zs).length)=true:=by
     simp only[Bool.and_eq_true]
     exact⟨hc.2,Nat.ble_eq_true_of_le (by rw[cH,h1];omega)⟩
    rw[hb]
    show d0u _ (a0d (pre++zs) (j*k) v.cells) r=_
    rw[←h1,g0z _ _ _ hz]
    have:=k0O r (j+1) (pre++v.cells) (zs.drop v.cells.length) ys' hr (by rw[cH,h1,hk,Nat.add_mul];omega) (by rw[List.length_drop,h2,hk,cL,Nat.add_mul];omega)
    rw[this,List.append_assoc]
theorem O.buildSliceF {T U k bs n:Nat}{z:Value}{parts:List (Nat×Operand)}{ps:List (Nat×AV)}{ys:List AV}[hs:TyS P T U k bs z](ho:o.op= .buildSlice T n parts.toArray)(hx:evp E parts=some ps)(h1:f0q ps=true)
  (hsm:Nat.ble (n*k) 16777216=true) (hpos:Nat.ble 1 (n*k)=true) (hzk:Nat.beq z.cells.size k=true) (hn:Nat.beq ps.length n=true) (hy:s0y k 0 ps=some ys):OpW P N o E H (a0W (fun b=> .val (.slice (some ⟨b,0,none⟩) n n)) U (n*k) ys):=
 O.buildSlice ho hx h1 hsm hpos hzk (by
  have:=k0O ps 0 [] (a0p n z) ys hy (by simp) (by
   have hzl:(z.cells.toList.map AV.val).length=k:=by rw[List.length_map,Array.length_toList];exact Nat.eq_of_beq_eq_true hzk
   rw[Nat.eq_of_beq_eq_true hn,a0p,List.length_flatten,List.map_replicate,hzl];simp)
  simpa using this)
theorem xu {T U k bs n:Nat}{z:Value}{parts:List (Nat×Operand)}{ps:List (Nat×AV)}{ys:List AV}(ho:o.op= .buildSlice T n parts.toArray:=by exact rfl)(hs:TyS P T U k bs z:=by infer_instance)(hx:evp E parts=some ps:=by exact rfl)(h1:f0q ps=true:=by exact rfl)(hsm:Nat.ble (n*k) 16777216=true:=by rfl)(hpos:Nat.ble 1 (n*k)=true:=by rfl)(hzk:Nat.beq z.cells.size k=true:=by rfl)(hn:Nat.beq ps.length n=true:=by rfl)(hy:s0y k 0 ps=some ys:=by rfl):OpW P N o E H (a0W (fun b=> .val (.slice (some ⟨b,0,none⟩) n n)) U (n*k) ys):=O.buildSliceF ho hx h1 hsm hpos hzk hn hy
theorem OpW.frzR {U k n:Nat}{ys:List AV}(h:OpW P N o E H (b0h U k n ys)):OpW P N o E H (Is (.ro false n ys)):=fun R a W h1 h2 h3 h4=>by
 refine Oper.wp_mono ?_ (h R a W h1 h2 h3 h4)
 rintro A' W' ⟨u,v,Hn,R',rfl,⟨v0,rfl,hv0,rfl⟩,p⟩
 obtain⟨hok,hfo⟩:=p.ok _ (List.mem_cons_self ..)
 have hu:=p.val.val_inv
 subst hu
 have hok':=hok
 obtain⟨us,hown,hr⟩:=hok
 refine⟨_,.ro false n ys,[],fun c=>R' c∨(HE.row u U k n ys).foot c,rfl,⟨rfl,rfl⟩,p.ext,fun c hc=> .inl (p.sub c hc),fun c hc=> ?_,?_,fun _ he=>(by cases he),.nil⟩
 ·rcases hc with hc|hc
  ·exact p.new c hc
  ·exact .inr ⟨(hfo _ hc).1,HE.ok_lt hok' hc⟩
 ·have hr':=hr.mono (R':=fun c=>R' c∨(HE.row u U k n ys).foot c) (fun _ h=> .inl h) (W':=W') (fun _ _=>rfl)
  rcases hown.2 with⟨rfl,rfl⟩|⟨g,cap,cur,rfl,hbg,hg,h1,h2,h3,h4⟩
  ·have:ys= []:=List.eq_nil_of_length_eq_zero (by rw[←hr.1,hown.1];simp)
   subst this
   exact .emp _ _ _ (fun h=>by cases h) (Nat.zero_le _)
  ·refine .ro false n ys g 0 cap (fun j=>us.getD j undef) (.inr rfl) (fun j hj=> ?_) (fun j hj=>hr'.2 j hj) h1 h2 (fun h=>by cases h)
   have hj':j<us.length:=by rw[hr.1];exact hj
   have:=hown.cells (g:=g) rfl j us[j] (by simp[hj'])
   rw[a0K]at this
   rw[this]
   simp[List.getD,hj']
theorem xI {U k n:Nat}{ys:List AV}(h:OpW P N o E H (b0h U k n ys):=by exact(O.appendNil rfl (by rfl) (by rfl) rfl rfl (by exact SrcA.ro TyD.ax (by(simp;done)) (lB rfl)) (by(simp[AV.cells,AV.one, *];done)) (by(unfold maxLen;omega)) (by omega))):OpW P N o E H (Is (.ro false n ys)):=OpW.frzR h
def m0M (tmps:Array Value):ResultVar→Sem Value
 | .tmp t=>pure (tmps.getD t undef)
 | .cell a t=>do loadVar t (←asAddr (tmps.getD a undef))
theorem g0G (fn:Func)(tmps:Array Value):results fn tmps=(do
  let vs←fn.results.mapM (m0M tmps)
  pure (if h:vs.size=1 then vs[0]else .tuple vs)):=by
 unfold results
 congr 1
def ResAt (Γ:Cx)(P:Program)(E:Env)(H:List HE)(x:ResultVar)(q:AV):Prop:=
 ∀R a W,RelS Γ R H W→RelA Γ.N R W E a→ ∃u,(m0M a.tmps x).run P W= .ok u W∧RelV R W q u
theorem ResAt.tmp {t:Nat}{q:AV}(h:a0t E t=some q):ResAt Γ P E H (.tmp t) q:=fun R a W hs ha=>⟨a.eval (.tmp t),rfl,ha.slots t q h⟩
theorem ResAt.cell {t T k b T' room:Nat}{xs ys:List AV}[hg:TyG P T true k](ht:a0t E t=some (.val (.pointer (some ⟨b,0,none⟩))))(hm:HE.blk b T' room xs∈H)(hv:xs.take k=ys)(hk:ys.length=k):ResAt Γ P E H (.cell t T) (.agg ys):=fun R a W hs ha=>by
 obtain⟨us,cs,hb,hsz,hts,hrl⟩:=hs.ok _ hm
 have hrl:=hrl.take k
 rw[hv]at hrl
 have hl:=b0G hg W b 0 (us.take k) (by rw[hrl.1,hk]) (fun i u hi=>by
  rw[cell_of_row W b (0+i) cs T' (0,0) hb]
  rw[List.getElem?_take]at hi
  split at hi
  ·rw[←hts,List.getElem?_take]at hi
   split at hi
   ·simpa using hi
   ·cases hi
  ·cases hi)
 have hv':=(ha.slots t _ ht).val_inv
 refine⟨.agg (us.take k).toArray,?_,hrl.toAgg⟩
 have:a.tmps.getD t undef= .pointer (some ⟨b,0,none⟩):=hv'
 simp[m0M,this,asAddr,hl]
theorem AQ.ret3G {fn:Func}{Post:AV→List HE→Prop}{x y z:ResultVar}{p q r:AV}{H':List HE}(hr:fn.results= #[x,y,z])(h1:ResAt Γ P E H x p)(h2:ResAt Γ P E H y q)(h3:ResAt Γ P E H z r)
  (hH: ∃H1,H1.Sublist H∧H'.Perm H1) (hp:Post (.tup [p,q,r]) H'):AQ Γ (FnQ Γ P fn Post) .ret E H:=fun R a W hs ha=>by
 obtain⟨H1,k1,k2⟩:=hH
 obtain⟨u1,e1,g1⟩:=h1 R a W hs ha
 obtain⟨u2,e2,g2⟩:=h2 R a W hs ha
 obtain⟨u3,e3,g3⟩:=h3 R a W hs ha
 refine⟨ha.defers,.tuple #[u1,u2,u3],?_,_,_,H',R,rfl,hp,?_,RelL.toTup (us:= [u1,u2,u3]) (RelL.cons g1 (RelL.cons g2 (RelL.cons g3 RelL.nil)))⟩
 ·rw[g0G,hr]
  simp[e1,e2,e3]
 ·have:=(hs.sub k1).perm k2
  exact⟨this.mods,this.rlt,this.rsub,this.rnew,this.ok,this.own,this.disj⟩
theorem yh {fn:Func}{Post:AV→List HE→Prop}{x y z:ResultVar}{p q r:AV}{H':List HE}(hr:fn.results= #[x,y,z]:=by exact rfl)(h1:ResAt Γ P E H x p:=by exact ResAt.cell rfl (by repeat(exact List.Mem.head _)) (by(dsimp only[List.set,cA,cN,List.take,List.drop];done)) (by rfl))(h2:ResAt Γ P E H y q:=by exact ResAt.cell rfl mM (by(dsimp only[List.set,cA,cN,List.take,List.drop];done)) (by rfl))(h3:ResAt Γ P E H z r:=by exact ResAt.tmp rfl)(hH: ∃H1,H1.Sublist H∧H'.Perm H1:=by exact nS)(hp:Post (.tup [p,q,r]) H':=by exact⟨rfl,rfl⟩):AQ Γ (FnQ Γ P fn Post) .ret E H:=AQ.ret3G hr h1 h2 h3 hH hp
theorem y4 {fn:Func}{Post:AV→List HE→Prop}{x y z:ResultVar}{p q r:AV}{H':List HE}(hr:fn.results= #[x,y,z]:=by exact rfl)(h1:ResAt Γ P E H x p:=by exact ResAt.cell rfl mM (by(dsimp only[List.set,cA,cN,List.take,List.drop];done)) (by rfl))(h2:ResAt Γ P E H y q:=by exact ResAt.tmp rfl)(h3:ResAt Γ P E H z r:=by exact ResAt.tmp rfl)(hH: ∃H1,H1.Sublist H∧H'.Perm H1:=by exact nS)(hp:Post (.tup [p,q,r]) H':=by exact⟨rfl,rfl⟩):AQ Γ (FnQ Γ P fn Post) .ret E H:=AQ.ret3G hr h1 h2 h3 hH hp
theorem y7 {fn:Func}{Post:AV→List HE→Prop}{x y z:ResultVar}{p q r:AV}{H':List HE}(hr:fn.results= #[x,y,z]:=by exact rfl)(h1:ResAt Γ P E H x p:=by exact ResAt.cell rfl mM (by(dsimp only[List.set,cA,cN,List.take,List.drop];done)) (by rfl))(h2:ResAt Γ P E H y q:=by exact ResAt.cell rfl (by repeat(exact List.Mem.head _)) (by(dsimp only[List.set,cA,cN,List.take,List.drop];done)) (by rfl))(h3:ResAt Γ P E H z r:=by exact ResAt.tmp rfl)(hH: ∃H1,H1.Sublist H∧H'.Perm H1:=by exact nS)(hp:Post (.tup [p,q,r]) H':=by exact⟨rfl,rfl⟩):AQ Γ (FnQ Γ P fn Post) .ret E H:=AQ.ret3G hr h1 h2 h3 hH hp
theorem xg {fn:Func}{Post:AV→List HE→Prop}{x y z:ResultVar}{p q r:AV}{H':List HE}(hr:fn.results= #[x,y,z]:=by exact rfl)(h1:ResAt Γ P E H x p:=by exact ResAt.cell rfl (by repeat(exact List.Mem.head _)) (by(dsimp only[List.set,cA,cN,List.take,List.drop];done)) (by rfl))(h2:ResAt Γ P E H y q:=by exact ResAt.tmp rfl)(h3:ResAt Γ P E H z r:=by exact ResAt.tmp rfl)(hH: ∃H1,H1.Sublist H∧H'.Perm H1:=by exact nS)(hp:Post (.tup [p,q,r]) H':=by exact⟨rfl,rfl⟩):AQ Γ (FnQ Γ P fn Post) .ret E H:=AQ.ret3G hr h1 h2 h3 hH hp
theorem xP {fn:Func}{Post:AV→List HE→Prop}{x y z:ResultVar}{p q r:AV}{H':List HE}(hr:fn.results= #[x,y,z]:=by exact rfl)(h1:ResAt Γ P E H x p:=by exact ResAt.cell rfl mM (by(dsimp only[List.set,cA,cN,List.take,List.drop];done)) (by rfl))(h2:ResAt Γ P E H y q:=by exact ResAt.cell rfl mM (by(dsimp only[List.set,cA,cN,List.take,List.drop];done)) (by rfl))(h3:ResAt Γ P E H z r:=by exact ResAt.tmp rfl)(hH: ∃H1,H1.Sublist H∧H'.Perm H1:=by exact nS)(hp:Post (.tup [p,q,r]) H':=by exact⟨rfl,rfl⟩):AQ Γ (FnQ Γ P fn Post) .ret E H:=AQ.ret3G hr h1 h2 h3 hH hp
end
section
variable {P:Program}{ops:Array Oper}{N:Nat}
structure Al where
 (i d T room:Nat) (xs:List AV)
def Al.ok (P:Program)(N:Nat)(ops:Array Oper)(al:Al):Prop:=
 ∃o,ops[al.i]? =some o∧o.dst=some al.d∧al.d<N∧o.guard=none∧OpW P N o [] [] (a0W (fun b=> .val (.pointer (some ⟨b,0,none⟩))) al.T al.room al.xs)
def Al.he (al:Al)(b:Nat):HE:= .blk b al.T al.room al.xs
def Al.hs (al:Al):Option Nat→List HE
 |none=> []
 |some b=> [al.he b]
def AN (P:Program)(N:Nat)(ops:Array Oper)(al:Al)(Hs:List HE)(K:Env→List HE→Prop):List (Nat×Bool)→Env→List HE→Prop
 | [],E,H=>K E H
 |(i,true)::r,E,H=>if i=al.i then(∀b,AN P N ops al Hs K r ((al.d,.val (.pointer (some ⟨b,0,none⟩)))::E) (al.he b::H))else∃o,ops[i]? =some o∧ ∀w0 R0,AO ⟨w0,a0D H,R0,N⟩ P ops (QS ⟨w0,a0D H,R0,N⟩ o.dst (fun v H'=>AN P N ops al Hs K r (a0z o.dst v E) H')) [o] (rst E (o.looksAt ops)) H
 |(i,false)::r,E,H=> ∃o d v,ops[i]? =some o∧o.dst=some d∧d<N∧OpF P N ops o (rst E (o.looksAt ops)) Hs (Is v)∧AN P N ops al Hs K r ((d,v)::E) H
def d0i (ops:Array Oper)(ia:Nat)(an:List (List Nat))(i:Nat)(b:Bool)(j:Nat)(c:Bool):Bool:=
 match ops[i]?,ops[j]?with
 | some oi,some oj=>
  let waits:=oj.after.any fun e=>Region.binds .any e&&e.on==i
  let anc:=(an.getD j []).contains i
  (i !=j)&&(!b||anc||j==ia)&&
  (match oj.dst with
   |some d=>bif c&&j !=ia then(!((oi.looksAt ops).contains d||oi.dst==some d))||anc else !(oi.looksAt ops).contains d&&oi.dst !=some d
   |none=>c&&j !=ia)&&
  (match oi.dst with
   |some d=> !(oj.looksAt ops).contains d||waits
   |none=>true)
 |_,_=>false
def b0x (ops:Array Oper)(ia:Nat)(an:List (List Nat)):List (Nat×Bool)→Bool
 | []=>true
 |(i,b)::r=>(b||(match ops[i]?with|some o=>(match o.dst with|some d=> !(o.looksAt ops).contains d|none=>false)|none=>false))&&r.all (fun q=>d0i ops ia an i b q.1 q.2)&&b0x ops ia an r
def q0h (ops:Array Oper)(ia:Nat)(ord:List (Nat×Bool)):Bool:=
 ((List.range ops.size).all fun i=>(ord.map Prod.fst).contains i)&&(ord.all fun q=>decide (q.1<ops.size))&&
 ((List.range ops.size).all fun i=>(ops[i]?).all fun o=>o.after.all fun e=> !Region.binds .any e||decide (e.on<i))&&(ord.all fun q=>q.1 !=ia||q.2)&&b0x ops ia (c0M ops.toList []) ord
theorem a0m {ia:Nat}{an:List (List Nat)}: ∀{pre r:List (Nat×Bool)},b0x ops ia an (pre++r)=true→b0x ops ia an r=true∧ ∀q∈pre,∀s∈r,d0i ops ia an q.1 q.2 s.1 s.2=true
 | [],r,h=>⟨h,fun q hq=>by cases hq⟩
 |(i,b)::pre,r,h=>by
  rw[cA,b0x]at h
  simp only[Bool.and_eq_true,List.all_eq_true]at h
  obtain⟨h1,h2⟩:=a0m h.2
  refine⟨h1,fun q hq s hs=> ?_⟩
  rcases List.mem_cons.1 hq with rfl|hq
  ·exact h.1.2 s (List.mem_append_right _ hs)
  ·exact h2 q hq s hs
structure PairOkA (ops:Array Oper) (ia:Nat) (an:List (List Nat)) (i:Nat) (b:Bool) (oi:Oper) (j:Nat) (c:Bool) (oj:Oper):Prop where
 ne:i≠j
 main:b=true→j≠ia→i∈an.getD j []
 flt:c=false∨j=ia→ ∃d,oj.dst=some d∧d∉oi.looksAt ops∧oi.dst≠some d
 mn:c=true→j≠ia→ ∀d,oj.dst=some d→(d∈oi.looksAt ops∨oi.dst=some d)→i∈an.getD j []
 reads: ∀d,oi.dst=some d→d∈oj.looksAt ops→ ∃e∈oj.after,Region.binds .any e=true∧e.on=i
theorem b0m {ia:Nat}{an:List (List Nat)}{i j:Nat}{b c:Bool}{oi oj:Oper}(h:d0i ops ia an i b j c=true)(hi:ops[i]? =some oi)(hj:ops[j]? =some oj):PairOkA ops ia an i b oi j c oj:=by
 unfold d0i at h
 rw[hi,hj]at h
 simp only[Bool.and_eq_true,bne_iff_ne,ne_eq]at h
 obtain⟨⟨⟨h1,h2⟩,h3⟩,h4⟩:=h
 refine⟨h1,fun hb hj=> ?_,fun hc=> ?_,fun hc hj d hd hm=> ?_,fun d hd hm=> ?_⟩
 ·subst hb;simpa[hj]using h2
 ·have hcj:(c&&j !=ia)=false:=by rcases hc with hc|hc<;>simp[hc]
  cases hd:oj.dst with
  |none=>rw[hd]at h3;simp only[hcj]at h3;cases h3
  |some d=>
   rw[hd]at h3
   simp only[hcj,cond_false]at h3
   simp at h3
   exact⟨d,rfl,h3.1,h3.2⟩
 ·subst hc
  have hcj:(true&&j !=ia)=true:=by simp[hj]
  rw[hd]at h3
  simp only[hcj,cond_true]at h3
  simp at h3
  rcases h3 with h3|h3
  ·rcases hm with hm|hm
   ·exact absurd hm h3.1
   ·exact absurd hm h3.2
  ·exact h3
 ·rw[hd]at h4
  simp only[Bool.or_eq_true,Bool.not_eq_true',List.contains_eq_mem,decide_eq_false_iff_not]at h4
  rcases h4 with h4|h4
  ·exact absurd hm h4
  ·obtain⟨x,hx,hx2⟩:=g0h h4
   simp only[Bool.and_eq_true,beq_iff_eq]at hx2
   exact⟨x,hx,hx2.1,hx2.2⟩
structure NI (P:Program) (Γ:Cx) (ops:Array Oper) (al:Al) (Hs:List HE) (K:Env→List HE→Prop) (ord:List (Nat×Bool)) (listed:Array Bool) (A:Act) (W:World) (pre ms:List (Nat×Bool)) (Pd:List Nat) (ea:Option Nat) (E:Env) (H:List HE) (R:Nat→Prop):Prop where
 size:listed.size=ops.size
 closed:c0u ops listed
 part: ∀i,i<ops.size→(listed.getD i false=false↔(i∈Pd∨i∈ms.map Prod.fst)∧(ea≠none→i≠al.i))
 ord:ord=pre++ms
 pdp: ∀i∈Pd,(i,false)∈pre
 am:AN P Γ.N ops al Hs K ms E H
 pend: ∀i∈Pd,∃o d v,ops[i]? =some o∧o.dst=some d∧d<Γ.N∧a0t E d=some v∧OpF P Γ.N ops o (rst E (o.looksAt ops)) Hs (Is v)
 rels:RelS Γ R (H++(al.hs ea++Hs)) W
 eal: ∀b,ea=some b→(al.i,true)∈ms∧A.eval (.tmp al.d)= .pointer (some ⟨b,0,none⟩)
 defers:A.defers= []
 tmps:A.tmps.size=Γ.N
 act: ∀t v,a0t E t=some v→(∀i∈Pd,∀o,ops[i]? =some o→o.dst≠some t)→(ea≠none→t≠al.d)→RelV R W v (A.eval (.tmp t))
variable {Γ:Cx}{al:Al}{Hs:List HE}{K:Env→List HE→Prop}{ord:List (Nat×Bool)}
theorem NI.absorb {listed:Array Bool}{A:Act}{W:World}{R:Nat→Prop}(hok:b0x ops al.i (c0M ops.toList []) ord=true)(hal:al.ok P Γ.N ops): ∀(ms pre:List (Nat×Bool)) (Pd:List Nat) (ea:Option Nat) (E:Env) (H:List HE),NI P Γ ops al Hs K ord listed A W pre ms Pd ea E H R→
  ∃pre' ms' Pd' ea' E' H',NI P Γ ops al Hs K ord listed A W pre' ms' Pd' ea' E' H' R∧(ms'= []∨ ∃m r,ms'=(m,true)::r∧(m=al.i→ea'=none))
 | [],pre,Pd,ea,E,H,h=>⟨pre,[],Pd,ea,E,H,h,.inl rfl⟩
 | (m,true)::r,pre,Pd,ea,E,H,h=>by
  by_cases hm:m=al.i
  ·subst hm
   cases hea:ea with
   |none=>subst hea;exact⟨pre,_,Pd,none,E,H,h,.inr ⟨_,r,rfl,fun _=>rfl⟩⟩
   | some b=>
    subst hea
    obtain⟨oa,ho,hd,hN,hg,hop⟩:=hal
    have ham:=h.am
    rw[AN,if_pos rfl]at ham
    have hord:=h.ord
    have hq:=a0m (pre:=pre) (r:=(al.i,true)::r) (by rw[←hord];exact hok)
    have hself: ∀i∈Pd,i≠al.i:=fun i hi e=>by
     have:=b0m (hq.2 _ (h.pdp i hi) (al.i,true) (List.mem_cons_self ..)) (by rw[e];exact ho) ho
     exact this.ne e
    have hp: ∀i∈Pd,∀oi,ops[i]? =some oi→al.d∉oi.looksAt ops∧oi.dst≠some al.d:=fun i hi oi hoi=>by
     have:=b0m (hq.2 _ (h.pdp i hi) (al.i,true) (List.mem_cons_self ..)) hoi ho
     obtain⟨d',h1,h2,h3⟩:=this.flt (.inr rfl)
     rw[hd]at h1
     cases h1
     exact⟨h2,h3⟩
    have hnr:al.i∉r.map Prod.fst:=fun hm=>by
     obtain⟨⟨j,c⟩,hq3,hji⟩:=List.mem_map.1 hm
     have h9:=(a0m (pre:=pre++[(al.i,true)]) (r:=r) (by rw[List.append_assoc,List.singleton_append,←hord];exact hok)).2 (al.i,true) (by simp) _ hq3
     simp only at hji
     subst hji
     exact(b0m h9 ho ho).ne rfl
    refine NI.absorb hok ⟨oa,ho,hd,hN,hg,hop⟩ r (pre++[(al.i,true)]) Pd none ((al.d,.val (.pointer (some ⟨b,0,none⟩)))::E) (al.he b::H) ⟨h.size,h.closed,fun i hi=> ?_,by rw[hord];simp,fun i hi=>List.mem_append_left _ (h.pdp i hi),ham b,fun i hi=> ?_,?_,fun _ h=>(by cases h),h.defers,h.tmps,fun t x ht hpd _=> ?_⟩
    ·rw[h.part i hi]
     simp only[List.map_cons,List.mem_cons,ne_eq,not_false_eq_true,forall_const,not_true_eq_false,false_implies,and_true,reduceCtorEq]
     constructor
     ·rintro⟨h1|h1|h1,h2⟩
      ·exact .inl h1
      ·exact absurd h1 h2
      ·exact .inr h1
     ·rintro(h1|h1)
      ·exact⟨.inl h1,hself i h1⟩
      ·exact⟨.inr (.inr h1),fun e=>hnr (e▸h1)⟩
    ·obtain⟨oi,di,vi,h1,h2,h3,h4,h5⟩:=h.pend i hi
     obtain⟨h6,h7⟩:=hp i hi oi h1
     refine⟨oi,di,vi,h1,h2,h3,?_,by rw[b0e h6];exact h5⟩
     rw[a0L (fun e=>h7 (by rw[h2,e]))];exact h4
    ·refine h.rels.perm ?_
     show(al.he b::(H++([]++Hs))).Perm (H++([al.he b]++Hs))
     exact(List.perm_middle (a:=al.he b) (l₁:=H) (l₂:=Hs)).symm
    ·by_cases hdt:al.d=t
     ·subst hdt
      rw[b0p]at ht
      cases ht
      rw[(h.eal b rfl).2];exact .val _
     ·rw[a0L hdt]at ht
      exact h.act t x ht hpd fun _ e=>hdt e.symm
  ·exact⟨pre,_,Pd,ea,E,H,h,.inr ⟨m,r,rfl,fun e=>absurd e hm⟩⟩
 | (j,false)::r,pre,Pd,ea,E,H,h=>by
  obtain⟨o,d,v,ho,hd,hN,hop,ham⟩:=h.am
  have hord:=h.ord
  have hq:=a0m (pre:=pre) (r:=(j,false)::r) (by rw[←hord];exact hok)
  have hself:d∉o.looksAt ops:=by
   have:=hq.1
   rw[b0x]at this
   simp only[Bool.and_eq_true,ho,hd,Bool.false_or]at this
   simpa using this.1.1
  have hp: ∀i∈Pd,∀oi,ops[i]? =some oi→d∉oi.looksAt ops∧oi.dst≠some d:=fun i hi oi hoi=>by
   have:=b0m (hq.2 _ (h.pdp i hi) (j,false) (List.mem_cons_self ..)) hoi ho
   obtain⟨d',h1,h2,h3⟩:=this.flt (.inl rfl)
   rw[hd]at h1
   cases h1
   exact⟨h2,h3⟩
  refine NI.absorb hok hal r (pre++[(j,false)]) (j::Pd) ea ((d,v)::E) H ⟨h.size,h.closed,fun i hi=> ?_,by rw[hord];simp,fun i hi=> ?_,ham,fun i hi=> ?_,h.rels,fun b hb=> ?_,h.defers,h.tmps,fun t x ht hpd hea=> ?_⟩
  ·rw[h.part i hi]
   simp only[List.map_cons,List.mem_cons]
   refine and_congr_left fun _=> ?_
   constructor
   ·rintro(h|h|h)
    ·exact .inl (.inr h)
    ·exact .inl (.inl h)
    ·exact .inr h
   ·rintro((h|h)|h)
    ·exact .inr (.inl h)
    ·exact .inl h
    ·exact .inr (.inr h)
  ·rcases List.mem_cons.1 hi with rfl|hi
   ·simp
   ·exact List.mem_append_left _ (h.pdp i hi)
  ·rcases List.mem_cons.1 hi with rfl|hi
   ·exact⟨o,d,v,ho,hd,hN,b0p,by rw[b0e hself];exact hop⟩
   ·obtain⟨oi,di,vi,h1,h2,h3,h4,h5⟩:=h.pend i hi
    obtain⟨h6,h7⟩:=hp i hi oi h1
    refine⟨oi,di,vi,h1,h2,h3,?_,by rw[b0e h6];exact h5⟩
    rw[a0L (fun e=>h7 (by rw[h2,e]))];exact h4
  ·obtain⟨h1,h2⟩:=h.eal b hb
   rcases List.mem_cons.1 h1 with h1|h1
   ·cases h1
   ·exact⟨h1,h2⟩
  ·have hne:d≠t:=fun e=>hpd j (List.mem_cons_self ..) o ho (by rw[hd,e])
   rw[a0L hne]at ht
   exact h.act t x ht (fun i hi=>hpd i (List.mem_cons_of_mem _ hi)) hea
theorem NI.reads {listed:Array Bool}{A:Act}{W:World}{R:Nat→Prop}{pre ms:List (Nat×Bool)}{Pd:List Nat}{ea:Option Nat}{E:Env}{H:List HE}(hok:b0x ops al.i (c0M ops.toList []) ord=true)(hal:al.ok P Γ.N ops)(h:NI P Γ ops al Hs K ord listed A W pre ms Pd ea E H R)
  {i:Nat} {b:Bool} {o:Oper} (ho:ops[i]? =some o) (hdeps: ∀e∈o.after,Region.binds .any e=true→listed.getD e.on false=true) (hi:(i,b)∈pre∧i∈Pd∧b=false∨ ∃r,ms=(i,b)::r∧i≠al.i):RelA Γ.N R W (rst E (o.looksAt ops)) A:=by
 refine⟨h.defers,h.tmps,fun t v ht=> ?_⟩
 obtain⟨htl,ht⟩:=c0E ht
 obtain⟨oa,hoa,hda, -⟩:=hal
 have hnal:ea≠none→t≠al.d:=fun hea e=>by
  obtain⟨b',hb'⟩:=Option.ne_none_iff_exists'.1 hea
  have hmem:=(h.eal b' hb').1
  have key:d0i ops al.i (c0M ops.toList []) i b al.i true=true→False:=fun hp=>by
   obtain⟨d',h1,h2, -⟩:=(b0m hp ho hoa).flt (.inr rfl)
   rw[hda]at h1;cases h1
   exact h2 (e▸htl)
  rcases hi with⟨hip, -, -⟩|⟨r,hms,hne⟩
  ·exact key ((a0m (pre:=pre) (r:=ms) (by rw[←h.ord];exact hok)).2 _ hip _ hmem)
  ·rw[hms]at hmem
   rcases List.mem_cons.1 hmem with h9|h9
   ·cases h9;exact hne rfl
   ·exact key ((a0m (pre:=pre++[(i,b)]) (r:=r) (by have:=h.ord;rw[List.append_assoc,List.singleton_append,←hms,←this];exact hok)).2 (i,b) (by simp) _ h9)
 refine h.act t v ht (fun k hk ok hok' hdk=> ?_) hnal
 have hkp:=h.pdp k hk
 have hkn:ea≠none→k≠al.i:=fun hea e=>by
  obtain⟨b',hb'⟩:=Option.ne_none_iff_exists'.1 hea
  have hmem:=(h.eal b' hb').1
  exact(b0m ((a0m (pre:=pre) (r:=ms) (by rw[←h.ord];exact hok)).2 _ hkp _ hmem) hok' hoa).ne e
 have hkf:listed.getD k false=false:=(h.part k (Array.getElem?_eq_some_iff.1 hok').1).2 ⟨.inl hk,hkn⟩
 have direct:d0i ops al.i (c0M ops.toList []) k false i b=true→False:=fun hp=>by
  obtain⟨e,he,hb,hon⟩:=(b0m hp hok' ho).reads t hdk htl
  have:=hdeps e he hb
  rw[hon,hkf]at this;cases this
 rcases hi with⟨hip,hiP,rfl⟩|⟨r,hms, -⟩
 ·
  obtain⟨p1,p2,hp12⟩:=List.append_of_mem hkp
  have hord:=h.ord
  rw[hp12,List.append_assoc]at hord
  rw[hp12]at hip
  rcases List.mem_append.1 hip with hip|hip
  ·
   have hq:=a0m (pre:=p1) (by rw[←hord];exact hok)
   have:=b0m (hq.2 _ hip (k,false) (List.mem_cons_self ..)) ho hok'
   obtain⟨d',h1,h2, -⟩:=this.flt (.inl rfl)
   rw[hdk]at h1;cases h1
   exact h2 htl
  ·rcases List.mem_cons.1 hip with he|hip
   ·cases he
    have hq:=(a0m (pre:=p1) (by rw[←hord];exact hok)).1
    rw[cA,b0x]at hq
    simp only[Bool.and_eq_true]at hq
    obtain rfl:o=ok:=by rw[ho]at hok';exact Option.some.inj hok'
    have:=hq.1.1
    rw[ho]at this
    simp only[hdk,Bool.false_or]at this
    simp at this
    exact this htl
   ·rw[show p1++((k,false)::p2++ms)=(p1++[(k,false)])++(p2++ms) by simp]at hord
    have hq:=a0m (pre:=p1++[(k,false)]) (by rw[←hord];exact hok)
    exact direct (hq.2 (k,false) (by simp) (i,false) (List.mem_append_left _ hip))
 ·have hq:=a0m (pre:=pre) (r:=ms) (by rw[←h.ord];exact hok)
  exact direct (hq.2 _ hkp (i,b) (by rw[hms];exact List.mem_cons_self ..))
theorem AW.regionA {Q:Exit→Act→World→Prop}{E:Env}{H:List HE}{id:Nat}{l:List Oper}(al:Al)(hal0:al.ok P Γ.N l.toArray)(ord:List (Nat×Bool)){Hm Hs:List HE}(hm:P.follows .mixedOrders=true)(hok:q0h l.toArray al.i ord=true)(hH:c0i E H Hm Hs)
  (h:AN P Γ.N l.toArray al Hs (fun E' H'=>AQ Γ Q .normal E' (H'++Hs)) ord E Hm):AW Γ P Q (.region id l.toArray true) E H:=fun R a W hs0 ha0=>by
 obtain⟨ops,hops⟩: ∃ops,ops=l.toArray:=⟨_,rfl⟩
 rw[←hops]at h hok hal0
 have hal:=hal0
 obtain⟨oa,hoa,hda,hNa,hga,hopa⟩:=hal0
 simp only[q0h,Bool.and_eq_true,List.all_eq_true,List.mem_range]at hok
 obtain⟨⟨⟨⟨hall,hlt⟩,hbk⟩,hkind⟩,hpairs⟩:=hok
 have hkd: ∀i b,(i,b)∈ord→i=al.i→b=true:=fun i b hib e=>by have:=hkind _ hib;simpa[e]using this
 have hback: ∀i o,ops[i]? =some o→ ∀e∈o.after,Region.binds .any e=true→e.on<i:=fun i o ho e he hb=>by
  have hi:i<ops.size:=(Array.getElem?_eq_some_iff.1 ho).1
  have:=hbk i hi
  rw[ho]at this
  simp only[Option.all_some]at this
  have:=Array.all_eq_true_iff_forall_mem.1 this e he
  simpa[hb]using this
 have main: ∀(fuel:Nat) (listed:Array Bool) (A:Act) (W:World) (pre ms:List (Nat×Bool)) (Pd:List Nat) (ea:Option Nat) (E:Env) (H:List HE) (R:Nat→Prop),fuel=listed.toList.count false→
   NI P Γ ops al Hs (fun E' H'=>AQ Γ Q .normal E' (H'++Hs)) ord listed A W pre ms Pd ea E H R→(ms= []∨ ∃m r,ms=(m,true)::r∧(m=al.i→ea=none))→wpAny P .any ops Q fuel listed A W:=by
  intro fuel
  induction fuel with
  | zero=>
   intro listed A W pre ms Pd ea E H R hc hI hhd
   have hlist: ∀i,i<ops.size→listed.getD i false=true:=by
    intro i hi
    have hi':i<listed.size:=by rw[hI.size];exact hi
    cases hb:listed.getD i false with
    |true=>rfl
    | false=>
     exfalso
     have hm:false∈listed.toList:=by
      rw[←hb];simp[Array.getD,hi']
     have:=List.count_pos_iff.2 hm
     omega
   have hin: ∀i b,(i,b)∈ord→i<ops.size:=fun i b hib=>by have:=hlt _ hib;simpa using this
   have hms:ms= []:=by
    rcases hhd with h|⟨m,r,h,hm0⟩
    ·exact h
    ·have h1:=hin m true (by rw[hI.ord,h];simp)
     have:=(hI.part m h1).2 ⟨.inr (by rw[h];simp),fun hne e=>hne (hm0 e)⟩
     rw[hlist m h1]at this;cases this
   have hea:ea=none:=by
    cases hea:ea with
    |none=>rfl
    |some b=>have:=(hI.eal b hea).1;rw[hms]at this;cases this
   subst hea
   have hPd:Pd= []:=by
    rw[List.eq_nil_iff_forall_not_mem]
    intro i hi
    have h1:=hin i false (by rw[hI.ord];exact List.mem_append_left _ (hI.pdp i hi))
    have:=(hI.part i h1).2 ⟨.inl hi,fun hne=>absurd rfl hne⟩
    rw[hlist i h1]at this;cases this
   subst hms
   subst hPd
   refine⟨?_,hI.am R A W (by simpa[Al.hs]using hI.rels) ⟨hI.defers,hI.tmps,fun t v ht=>hI.act t v ht (fun i hi=>(by cases hi)) fun hne=>absurd rfl hne⟩⟩
   rw[List.eq_nil_iff_forall_not_mem]
   intro i hi
   obtain⟨h0,o,ho,_⟩:=mem_ready.1 hi
   have hi':i<ops.size:=(Array.getElem?_eq_some_iff.1 ho).1
   have:=hlist i hi'
   rw[←b0q (by rw[hI.size];exact hi')]at this
   rw[this]at h0;cases h0
  | succ fuel ih=>
   intro listed A W pre ms Pd ea E H R hc hI hhd
   have hne: ∃i,i∈Region.ready .any ops listed:=by
    have hex: ∃i,i<ops.size∧listed.getD i false=false:=by
     have hpos:0<listed.toList.count false:=by omega
     obtain⟨i,hi,hf⟩:=List.getElem_of_mem (List.count_pos_iff.1 hpos)
     have hi':i<listed.size:=by simpa using hi
     exact⟨i,by rw[←hI.size];exact hi',by simpa[Array.getD,hi']using hf⟩
    obtain⟨i,⟨hi,hf⟩,hmin⟩: ∃i,(i<ops.size∧listed.getD i false=false)∧ ∀j,j<i→ ¬(j<ops.size∧listed.getD j false=false):=by
     obtain⟨i,h⟩:=hex
     exact p0r ⟨i,h⟩
    have hio:ops[i]? =some ops[i]:=by simp[hi]
    refine⟨i,mem_ready.2 ⟨by rw[b0q (by rw[hI.size];exact hi)];exact hf,_,hio,fun e he hb=> ?_⟩⟩
    have:=hback i _ hio e he hb
    cases hb2:listed.getD e.on false with
    |true=>rfl
    |false=>exact absurd ⟨by omega,hb2⟩ (hmin e.on this)
   refine⟨fun e=>(by obtain⟨i,hi⟩:=hne;rw[e]at hi;cases hi),fun i hi=> ?_⟩
   obtain⟨h0,o,ho,hdeps⟩:=mem_ready.1 hi
   have hio:i<ops.size:=(Array.getElem?_eq_some_iff.1 ho).1
   have hf:listed.getD i false=false:=by rw[←b0q (by rw[hI.size];exact hio)];exact h0
   have hil:i<listed.size:=by rw[hI.size];exact hio
   have hanc: ∀j,j∈(c0M ops.toList []).getD i []→listed.getD j false=true:=fun j hj=>d0q hI.closed hback i o ho hdeps j hj
   have hcl:=c0t hI.closed ho hil hdeps
   have hcnt:fuel=(listed.setIfInBounds i true).toList.count false:=by
    have hcs:=b0c listed.toList i (by simpa using hil) (by simpa[Array.getD,hil]using hf)
    simp only[Array.toList_setIfInBounds]
    omega
   have hgd: ∀k,k≠i→(listed.setIfInBounds i true).getD k false=listed.getD k false:=fun k hk=>getD_set_ne false (Ne.symm hk)
   have hgi:(listed.setIfInBounds i true).getD i false=true:=by simp[Array.getD,hil]
   have hsz:(listed.setIfInBounds i true).size=ops.size:=by simpa using hI.size
   obtain⟨hPm,hni⟩:=(hI.part i hio).1 hf
   by_cases hia:i=al.i
   ·
    have hea:ea=none:=Classical.byContradiction fun hne=>hni hne hia
    subst hea
    obtain rfl:o=oa:=by rw[hia,hoa]at ho;exact(Option.some.inj ho).symm
    have hnP:al.i∉Pd:=fun hp=>by
     have:=hkd _ _ (by rw[hI.ord];exact List.mem_append_left _ (hI.pdp _ hp)) rfl
     cases this
    have hmm:(al.i,true)∈ms:=by
     rcases hPm with h1|h1
     ·exact absurd (hia▸h1) hnP
     ·obtain⟨⟨j,c⟩,hq,hji⟩:=List.mem_map.1 h1
      simp only at hji
      have hji':j=al.i:=hji.trans hia
      have:=hkd j c (by rw[hI.ord];exact List.mem_append_right _ hq) hji'
      rw[←hji',←this];exact hq
    have hs:=hopa R A W hI.rels.rlt (fun e he=>(by cases he)) (fun e he=>(by cases he)) ⟨hI.defers,hI.tmps,fun t v ht=>(by cases ht)⟩
    have hnext: ∀u W',(∃v' Hn R',a0W (fun b=> .val (.pointer (some ⟨b,0,none⟩))) al.T al.room al.xs v' Hn∧Post1 R W v' Hn u W' R')→wpAny P .any ops Q fuel (listed.setIfInBounds i true) (A.put o.dst u) W':=by
     rintro u W' ⟨v',Hn,R',⟨b,rfl,rfl⟩,hp⟩
     have hu:=hp.val.val_inv
     subst hu
     have hrel:RelS Γ R' (H++(al.hs (some b)++Hs)) W':=by
      refine(hI.rels.step hp).perm ?_
      show(H++([al.he b]++Hs)).Perm ([al.he b]++(H++([]++Hs)))
      exact(List.perm_middle (a:=al.he b) (l₁:=H) (l₂:=Hs))
     have hI':NI P Γ ops al Hs (fun E' H'=>AQ Γ Q .normal E' (H'++Hs)) ord (listed.setIfInBounds i true) (A.put o.dst (.pointer (some ⟨b,0,none⟩))) W' pre ms Pd (some b) E H R':=by
      refine⟨hsz,hcl,fun k hk=> ?_,hI.ord,hI.pdp,hI.am,hI.pend,hrel,fun b' hb'=> ?_,?_,?_,fun t x ht hpd hne=> ?_⟩
      ·by_cases hki:k=i
       ·subst hki
        rw[hgi]
        simp[hia]
       ·rw[hgd k hki,hI.part k hk]
        have hka:k≠al.i:=fun e=>hki (e.trans hia.symm)
        simp[hka]
      ·cases hb'
       refine⟨hmm,?_⟩
       rw[hda,a0J (by rw[hI.tmps];exact hNa)]
      ·rw[hda];exact hI.defers
      ·rw[hda];simp[Act.put,hI.tmps]
      ·have hdt:al.d≠t:=fun e=>hne (by simp) e.symm
       rw[hda,a0k hdt]
       exact(hI.act t x ht hpd fun h=>absurd rfl h).mono hp.sub (c0Z hp.ext hI.rels.rlt)
     obtain⟨pre',ms',Pd',ea',E',H',hI2,hh2⟩:=hI'.absorb hpairs hal
     exact ih _ _ _ pre' ms' Pd' ea' E' H' R' hcnt hI2 hh2
    unfold wpOp
    rw[ho]
    show if Region.wanted o (yielded ops A.tmps)=true then _ else _
    rw[if_pos (by unfold Region.wanted;rw[hga])]
    refine .inl (Oper.wp_mono ?_ (b0w hs))
    rintro A' W' ⟨u,v',Hn,R',rfl,hn,hp⟩
    exact hnext u W' ⟨v',Hn,R',hn,hp⟩
   rcases hPm with hPd|hms
   ·
    obtain⟨o',d,v,ho',hd,hN,hlk,hop⟩:=hI.pend i hPd
    obtain rfl:o=o':=by rw[ho]at ho';exact Option.some.inj ho'
    have hA:=hI.reads hpairs hal ho hdeps (b:=false) (.inl ⟨hI.pdp i hPd,hPd,rfl⟩)
    have hs:=hop R A W hI.rels.rlt (fun e he=>hI.rels.ok e (List.mem_append_right _ (List.mem_append_right _ he))) (fun e he b hb=>(hI.rels.own e (List.mem_append_right _ (List.mem_append_right _ he)) b hb).2) hA
    have hnext: ∀u W',(∃v' Hn R',Is v v' Hn∧Post1 R W v' Hn u W' R')→wpAny P .any ops Q fuel (listed.setIfInBounds i true) (A.put o.dst u) W':=by
     rintro u W' ⟨v',Hn,R',⟨rfl,rfl⟩,hp⟩
     have hnm:i∉ms.map Prod.fst:=fun hm=>by
      obtain⟨⟨j,c⟩,hq,hji⟩:=List.mem_map.1 hm
      have hq2:=(a0m (pre:=pre) (r:=ms) (by rw[←hI.ord];exact hpairs)).2 _ (hI.pdp i hPd) _ hq
      simp only at hji
      subst hji
      exact(b0m hq2 ho ho).ne rfl
     have hdne:ea≠none→d≠al.d:=fun hne e=>by
      obtain⟨b',hb'⟩:=Option.ne_none_iff_exists'.1 hne
      have hq2:=(a0m (pre:=pre) (r:=ms) (by rw[←hI.ord];exact hpairs)).2 _ (hI.pdp i hPd) _ (hI.eal b' hb').1
      obtain⟨d',h1,h2,h3⟩:=(b0m hq2 ho hoa).flt (.inr rfl)
      rw[hda]at h1;cases h1
      exact h3 (by rw[hd,e])
     refine ih _ _ _ pre ms (Pd.filter (· ≠i)) ea E H R' hcnt ⟨hsz,hcl,fun k hk=> ?_,hI.ord,fun k hk=>hI.pdp k (List.mem_filter.1 hk).1,hI.am,fun k hk=>hI.pend k (List.mem_filter.1 hk).1,by simpa using hI.rels.step hp,fun b' hb'=> ?_,?_,?_,fun t x ht hpd hne=> ?_⟩ hhd
     ·by_cases hki:k=i
      ·subst hki
       rw[hgi]
       simp[hnm]
      ·rw[hgd k hki,hI.part k hk]
       simp[hki]
     ·obtain⟨h1,h2⟩:=hI.eal b' hb'
      refine⟨h1,?_⟩
      rw[hd,a0k (hdne (by rw[hb'];simp))];exact h2
     ·rw[hd];exact hI.defers
     ·rw[hd];simp[Act.put,hI.tmps]
     ·rw[hd]
      by_cases hdt:d=t
      ·subst hdt
       rw[hlk]at ht
       cases ht
       rw[a0J (by rw[hI.tmps];exact hN)];exact hp.val
      ·rw[a0k hdt]
       refine(hI.act t x ht (fun k hk ok hok hdk=> ?_) ?_).mono hp.sub (c0Z hp.ext hI.rels.rlt)
       by_cases hki:k=i
       ·subst hki
        rw[ho]at hok
        cases hok
        rw[hd]at hdk
        cases hdk
        exact hdt rfl
       ·exact hpd k (List.mem_filter.2 ⟨hk,by simpa using hki⟩) ok hok hdk
       ·exact hne
    unfold wpOp
    rw[ho]
    unfold e0V at hs
    show if Region.wanted o (yielded ops A.tmps)=true then _ else _
    split
    ·rename_i hw
     rw[if_pos hw]at hs
     refine .inl (Oper.wp_mono ?_ (b0w hs))
     rintro A' W' ⟨u,rfl,hp⟩
     exact hnext u W' hp
    ·rename_i hw
     rw[if_neg hw]at hs
     exact hnext _ _ hs
   ·
    rcases hhd with rfl|⟨m,r,rfl,hm0⟩
    ·cases hms
    have hmlt:m<ops.size:=by have:=hlt (m,true) (by rw[hI.ord];simp);simpa using this
    have hmf:listed.getD m false=false:=(hI.part m hmlt).2 ⟨.inr (by simp),fun hne e=>hne (hm0 e)⟩
    have him:i=m:=by
     rcases List.mem_cons.1 hms with h|h
     ·exact h
     ·exfalso
      obtain⟨⟨j,c⟩,hq,hji⟩:=List.mem_map.1 h
      simp only at hji
      subst hji
      have h9:=(a0m (pre:=pre++[(m,true)]) (r:=r) (by have:=hI.ord;rw[List.append_assoc,List.singleton_append,←this];exact hpairs)).2 (m,true) (by simp) _ hq
      have hom:ops[m]? =some ops[m]:=by simp[hmlt]
      have:=hanc m ((b0m h9 hom ho).main rfl hia)
      rw[hmf]at this;cases this
    subst him
    have ham0:=hI.am
    rw[AN,if_neg hia]at ham0
    obtain⟨o',ho',hAO⟩:=ham0
    obtain rfl:o=o':=by rw[ho]at ho';exact Option.some.inj ho'
    have hA:=hI.reads hpairs hal ho hdeps (b:=true) (.inr ⟨r,rfl,hia⟩)
    have hs:=hAO W R R A W ⟨Mods.refl _ _,hI.rels.rlt,fun _ h=>h,fun _ h=> .inl h,fun e he=>hI.rels.ok e (List.mem_append_left _ he),fun e he b hb=>⟨.inr ⟨e,he,hb⟩,(hI.rels.own e (List.mem_append_left _ he) b hb).2⟩,(List.pairwise_append.1 hI.rels.disj).1⟩ hA
    have hnext: ∀u W',QS ⟨W,a0D H,R,Γ.N⟩ o.dst (fun v H'=>AN P Γ.N ops al Hs (fun E' H'=>AQ Γ Q .normal E' (H'++Hs)) r (a0z o.dst v E) H') .normal (A.put o.dst u) W'→wpAny P .any ops Q fuel (listed.setIfInBounds i true) (A.put o.dst u) W':=by
     rintro u W' ⟨hdf,v,H',R',ham,hsr,hvr⟩
     obtain⟨hrel,hRW⟩:=RelS.part hI.rels hsr
     have hpd: ∀k∈Pd,∀ok,ops[k]? =some ok→ ∀d,o.dst=some d→d∉ok.looksAt ops∧ok.dst≠some d:=fun k hk ok hok d hd=>by
      have h9:=(a0m (pre:=pre) (r:=(i,true)::r) (by rw[←hI.ord];exact hpairs)).2 _ (hI.pdp k hk) (i,true) (List.mem_cons_self ..)
      have hkf:listed.getD k false=false:=(hI.part k (Array.getElem?_eq_some_iff.1 hok).1).2 ⟨.inl hk,fun _ e=>(by have:=hkd _ _ (by rw[hI.ord];exact List.mem_append_left _ (hI.pdp k hk)) e;cases this)⟩
      have hno:k∉(c0M ops.toList []).getD i []:=fun hm=>by
       have:=hanc k hm
       rw[hkf]at this;cases this
      exact⟨fun hm=>hno ((b0m h9 hok ho).mn rfl hia d hd (.inl hm)),fun he=>hno ((b0m h9 hok ho).mn rfl hia d hd (.inr he))⟩
     have hnr:i∉r.map Prod.fst:=fun hm=>by
      obtain⟨⟨j,c⟩,hq,hji⟩:=List.mem_map.1 hm
      have h9:=(a0m (pre:=pre++[(i,true)]) (r:=r) (by have:=hI.ord;rw[List.append_assoc,List.singleton_append,←this];exact hpairs)).2 (i,true) (by simp) _ hq
      simp only at hji
      subst hji
      exact(b0m h9 ho ho).ne rfl
     have hnp:i∉Pd:=fun hk=>by
      have h9:=(a0m (pre:=pre) (r:=(i,true)::r) (by rw[←hI.ord];exact hpairs)).2 _ (hI.pdp i hk) (i,true) (List.mem_cons_self ..)
      exact(b0m h9 ho ho).ne rfl
     have hdne:ea≠none→o.dst≠some al.d:=fun hne=>by
      obtain⟨b',hb'⟩:=Option.ne_none_iff_exists'.1 hne
      rcases List.mem_cons.1 (hI.eal b' hb').1 with h1|h1
      ·cases h1;exact absurd rfl hia
      ·have h9:=(a0m (pre:=pre++[(i,true)]) (r:=r) (by have:=hI.ord;rw[List.append_assoc,List.singleton_append,←this];exact hpairs)).2 (i,true) (by simp) _ h1
       obtain⟨d',h1,h2,h3⟩:=(b0m h9 ho hoa).flt (.inr rfl)
       rw[hda]at h1;cases h1
       exact h3
     have hI':NI P Γ ops al Hs (fun E' H'=>AQ Γ Q .normal E' (H'++Hs)) ord (listed.setIfInBounds i true) (A.put o.dst u) W' (pre++[(i,true)]) r Pd ea (a0z o.dst v E) H' R':=by
      refine⟨hsz,hcl,fun k hk=> ?_,by rw[hI.ord];simp,fun k hk=>List.mem_append_left _ (hI.pdp k hk),ham,fun k hk=> ?_,hrel,fun b' hb'=> ?_,hdf,?_,fun t x ht hp hne=> ?_⟩
      ·by_cases hki:k=i
       ·subst hki
        rw[hgi]
        simp[hnr,hnp]
       ·rw[hgd k hki,hI.part k hk]
        simp[hki]
      ·obtain⟨ok,dk,vk,h1,h2,h3,h4,h5⟩:=hI.pend k hk
       refine⟨ok,dk,vk,h1,h2,h3,?_,?_⟩
       ·cases hd:o.dst with
        |none=>exact h4
        |some d=>rw[a0z,a0L (fun e=>(hpd k hk ok h1 d hd).2 (by rw[h2,e]))];exact h4
       ·cases hd:o.dst with
        |none=>exact h5
        |some d=>rw[a0z,b0e (hpd k hk ok h1 d hd).1];exact h5
      ·obtain⟨h1,h2⟩:=hI.eal b' hb'
       refine⟨(List.mem_cons.1 h1).resolve_left fun e=>(by cases e;exact hia rfl),?_⟩
       cases hd:o.dst with
       |none=>exact h2
       |some d=>rw[a0k (fun e=>hdne (by rw[hb'];simp) (by rw[hd,e]))];exact h2
      ·cases hd:o.dst<;>simp[Act.put,hI.tmps]
      ·cases hd:o.dst with
       |none=>
        rw[hd]at ht
        exact(hI.act t x ht hp hne).mono hsr.rsub hRW
       | some d=>
        rw[hd,a0z]at ht
        by_cases hdt:d=t
        ·subst hdt
         rw[b0p]at ht
         cases ht
         have:=hvr d hd
         rwa [hd]at this
        ·rw[a0L hdt]at ht
         rw[a0k hdt]
         exact(hI.act t x ht hp hne).mono hsr.rsub hRW
     obtain⟨pre',ms',Pd',ea',E',H'',hI2,hh2⟩:=hI'.absorb hpairs hal
     exact ih _ _ _ pre' ms' Pd' ea' E' H'' R' hcnt hI2 hh2
    unfold wpOp
    rw[ho]
    unfold wpList at hs
    show if Region.wanted o (yielded ops A.tmps)=true then _ else _
    split
    ·rename_i hw
     rw[if_pos hw]at hs
     refine .inl ?_
     rcases hs with hs|⟨-,a',w',hl⟩
     ·have hs2:o.wp P A W (wpList P ops (QS ⟨W,a0D H,R,Γ.N⟩ o.dst (fun v H'=>AN P Γ.N ops al Hs (fun E' H'=>AQ Γ Q .normal E' (H'++Hs)) r (a0z o.dst v E) H')) []) NoQ:=by
       unfold Oper.wp at hs⊢
       revert hs
       cases(execOp A.eval o).run P W with
       | ok n w'=>
        cases n with
        |enter f args=>
         intro hs
         refine Calls.mono hs ?_
         intro e w'' he
         cases e with
         |returned v=>exact he
         |outgrown=>obtain⟨a',w',hl⟩:=he;exact hl.elim
         |_=>exact he.elim
        |_=>exact fun h=>h
       |halt x w'=>cases x<;>exact fun h=>h
      refine Oper.wp_mono ?_ (b0w (Oper.wp_put hs2))
      rintro A' W' ⟨hq,hA'⟩
      have hq':QS ⟨W,a0D H,R,Γ.N⟩ o.dst (fun v H'=>AN P Γ.N ops al Hs (fun E' H'=>AQ Γ Q .normal E' (H'++Hs)) r (a0z o.dst v E) H') .normal A' W':=hq
      rcases hA' with⟨u,rfl⟩|hnd
      ·exact hnext u W' hq'
      ·exact absurd hq'.1 hnd
     ·exact hl.elim
    ·rename_i hw
     rw[if_neg hw]at hs
     exact hnext _ _ hs
 have hs:RelS Γ R (Hm++Hs) W.drew:=(RelS.perm ⟨hs0.mods.drew,hs0.rlt,hs0.rsub,hs0.rnew,fun e he=>HE.ok_mono (W:=W) (W':=W.drew) (fun _ h=>h) (fun _ _=>rfl) (Nat.le_refl _) (fun _ _=>rfl) (hs0.ok e he),hs0.own,hs0.disj⟩ hH.symm)
 have ha:RelA Γ.N R W.drew E a:=ha0.mono (fun _ h=>h) (fun _ _=>rfl)
 refine wp_region_any hm ?_
 rw[←hops]
 have hI:NI P Γ ops al Hs (fun E' H'=>AQ Γ Q .normal E' (H'++Hs)) ord (Array.replicate ops.size false) a W.drew [] ord [] none E Hm R:=by
  refine⟨by simp,fun i o hl=> ?_,fun i hi=> ?_,rfl,fun i hi=>(by cases hi),h,fun i hi=>(by cases hi),by simpa[Al.hs]using hs,fun _ h=>(by cases h),ha.defers,ha.size,fun t v ht _ _=>ha.slots t v ht⟩
  ·exfalso
   by_cases h:i<ops.size<;>simp[Array.getD,h]at hl
  ·have:=hall i hi
   simp only[List.contains_eq_mem,cQ]at this
   simp[Array.getD,hi,this]
 obtain⟨pre',ms',Pd',ea',E',H'',hI2,hh2⟩:=hI.absorb hpairs hal
 exact main _ _ _ _ pre' ms' Pd' ea' E' H'' R (by simp) hI2 hh2
theorem AN.op {i d:Nat}{r:List (Nat×Bool)}{E:Env}{H:List HE}{o:Oper}{v:AV}(ho:ops[i]? =some o)(h:OpW P N o (rst E (o.looksAt ops)) Hs (Is v))(hw:a0e ops (rst E (o.looksAt ops)) o=some true)(hd:o.dst=some d)(hN:Nat.ble (d+1) N=true)(k:AN P N ops al Hs K r ((d,v)::E) H):
  AN P N ops al Hs K ((i,false)::r) E H:=⟨o,d,v,ho,hd,lB hN,.run hw h,k⟩
theorem vy {i d:Nat}{r:List (Nat×Bool)}{E:Env}{H:List HE}{o:Oper}{v:AV}(k:AN P N ops al Hs K r ((d,v)::E) H)(ho:ops[i]? =some o:=by exact rfl)(h:OpW P N o (rst E (o.looksAt ops)) Hs (Is v):=by exact(O.move rfl rfl))(hw:a0e ops (rst E (o.looksAt ops)) o=some true:=by exact rfl)(hd:o.dst=some d:=by exact rfl)(hN:Nat.ble (d+1) N=true:=by exact rfl):AN P N ops al Hs K ((i,false)::r) E H:=AN.op ho h hw hd hN k
theorem AN.opG {i d:Nat}{r:List (Nat×Bool)}{E:Env}{H:List HE}{o:Oper}{c:Bool}{v:AV}(ho:ops[i]? =some o)(hw:a0P ops (rst E (o.looksAt ops)) o=some c)(hd:o.dst=some d)(hN:Nat.ble (d+1) N=true)(h:c=true→OpW P N o (rst E (o.looksAt ops)) Hs (Is v))(k:AN P N ops al Hs K r ((d,.opt c v)::E) H):
  AN P N ops al Hs K ((i,false)::r) E H:=⟨o,d,_,ho,hd,lB hN,.opt hw h,k⟩
theorem AN.no {i d:Nat}{r:List (Nat×Bool)}{E:Env}{H:List HE}{o:Oper}(ho:ops[i]? =some o)(hw:a0e ops (rst E (o.looksAt ops)) o=some false)(hd:o.dst=some d)(hN:Nat.ble (d+1) N=true)(k:AN P N ops al Hs K r ((d,.val undef)::E) H):
  AN P N ops al Hs K ((i,false)::r) E H:=⟨o,d,_,ho,hd,lB hN,.no hw,k⟩
theorem AN.main {i:Nat}{r:List (Nat×Bool)}{E:Env}{H:List HE}(o:Oper)(ho:ops[i]? =some o)(hne:Nat.beq i al.i=false)(h: ∀w0 R0,AO ⟨w0,a0D H,R0,N⟩ P ops (QS ⟨w0,a0D H,R0,N⟩ o.dst (fun v H'=>AN P N ops al Hs K r (a0z o.dst v E) H')) [o] (rst E (o.looksAt ops)) H):
  AN P N ops al Hs K ((i,true)::r) E H:=by rw[AN,if_neg (Nat.ne_of_beq_eq_false hne)];exact⟨o,ho,h⟩
theorem AN.box {i:Nat}{r:List (Nat×Bool)}{E:Env}{H:List HE}(he:i=al.i)(k: ∀b,AN P N ops al Hs K r ((al.d,.val (.pointer (some ⟨b,0,none⟩)))::E) (al.he b::H)):AN P N ops al Hs K ((i,true)::r) E H:=by rw[AN,if_pos he];exact k
theorem Al.mk' {ops:Array Oper}{i d T room:Nat}{xs:List AV}{bs:Nat}{z:Value}(o:Oper)(ho:ops[i]? =some o)(hd:o.dst=some d)(hN:Nat.ble (d+1) N=true)(hg:o.guard=none)[hn:TyN P T room bs z](hop:o.op= .alloc T)(hx:z.cells.toList.map AV.val=xs)(hk:z.cells.size=room):Al.ok P N ops ⟨i,d,T,room,xs⟩:=
 ⟨o,ho,hd,lB hN,hg,O.alloc hop hx hk⟩
theorem AN.nil {E:Env}{H:List HE}(h:K E H):AN P N ops al Hs K [] E H:=h
end
section
variable {P:Program}{ops:Array Oper}{N:Nat}
def s0r (als:List Al)(i:Nat):Option Al:=als.find? fun al=>Nat.beq al.i i
def n0y (als:List Al)(i:Nat):Bool:=(s0r als i).isSome
theorem h0P {als:List Al}(hn:(als.map Al.i).Nodup){al:Al}(h:al∈als):s0r als al.i=some al:=by
 induction als with
 |nil=>cases h
 | cons a r ih=>
  rw[List.map_cons,List.nodup_cons]at hn
  unfold s0r
  rw[List.find?_cons]
  rcases List.mem_cons.1 h with rfl|h
  ·simp
  ·have hne:Nat.beq a.i al.i=false:=by
    cases hb:Nat.beq a.i al.i with
    |false=>rfl
    |true=>exact absurd (List.mem_map.2 ⟨al,h,(Nat.eq_of_beq_eq_true hb).symm⟩) hn.1
   rw[hne];exact ih hn.2 h
def upd (ea:Nat→Option Nat)(i:Nat)(v:Option Nat):Nat→Option Nat:=fun k=>if k=i then v else ea k
theorem d0I (ea:Nat→Option Nat)(i:Nat)(v:Option Nat):upd ea i v i=v:=if_pos rfl
theorem b0U (ea:Nat→Option Nat){i k:Nat}(v:Option Nat)(h:k≠i):upd ea i v k=ea k:=if_neg h
def d0w (als:List Al)(ea:Nat→Option Nat):List HE:=als.flatMap fun al=>al.hs (ea al.i)
theorem j0I {als:List Al}{ea ea':Nat→Option Nat}(h: ∀al∈als,ea al.i=ea' al.i):d0w als ea=d0w als ea':=by
 induction als with
 |nil=>rfl
 |cons a r ih=>
  unfold d0w at ih⊢
  rw[List.flatMap_cons,List.flatMap_cons,h a (List.mem_cons_self ..),ih fun al hal=>h al (List.mem_cons_of_mem _ hal)]
theorem n0N {als:List Al}(hn:(als.map Al.i).Nodup){al:Al}(hm:al∈als){ea:Nat→Option Nat}(b:Nat)(h:ea al.i=none):(d0w als (upd ea al.i (some b))).Perm (al.he b::d0w als ea):=by
 induction als with
 |nil=>cases hm
 | cons a r ih=>
  rw[List.map_cons,List.nodup_cons]at hn
  rcases List.mem_cons.1 hm with rfl|hm
  ·have e:d0w r (upd ea al.i (some b))=d0w r ea:=j0I fun x hx=>b0U _ _ fun e=>hn.1 (List.mem_map.2 ⟨x,hx,e⟩)
   show(al.hs (upd ea al.i (some b) al.i)++d0w r (upd ea al.i (some b))).Perm (al.he b::(al.hs (ea al.i)++d0w r ea))
   rw[d0I,h,e];exact .refl _
  ·have hne:a.i≠al.i:=fun e=>hn.1 (List.mem_map.2 ⟨al,hm,e.symm⟩)
   show(a.hs (upd ea al.i (some b) a.i)++d0w r (upd ea al.i (some b))).Perm (al.he b::(a.hs (ea a.i)++d0w r ea))
   rw[b0U _ _ hne]
   exact((ih hn.2 hm).append_left _).trans List.perm_middle
theorem j0J {als:List Al}(hn:(als.map Al.i).Nodup){al:Al}(hm:al∈als){ea:Nat→Option Nat}{b:Nat}(h:ea al.i=some b):(d0w als ea).Perm (al.he b::d0w als (upd ea al.i none)):=by
 have e:ea=upd (upd ea al.i none) al.i (some b):=by
  funext k
  by_cases hk:k=al.i
  ·subst hk;rw[d0I];exact h
  ·rw[b0U _ _ hk,b0U _ _ hk]
 have:=n0N hn hm (ea:=upd ea al.i none) b (d0I _ _ _)
 rwa [←e]at this
def AB (P:Program)(N:Nat)(ops:Array Oper)(als:List Al)(Hs:List HE)(K:Env→List HE→Prop):List (Nat×Bool)→Env→List HE→Prop
 | [],E,H=>K E H
 |(i,true)::r,E,H=>match s0r als i with
  |some al=> ∀b,AB P N ops als Hs K r ((al.d,.val (.pointer (some ⟨b,0,none⟩)))::E) (al.he b::H)
  |none=> ∃o,ops[i]? =some o∧ ∀w0 R0,AO ⟨w0,a0D H,R0,N⟩ P ops (QS ⟨w0,a0D H,R0,N⟩ o.dst (fun v H'=>AB P N ops als Hs K r (a0z o.dst v E) H')) [o] (rst E (o.looksAt ops)) H
 |(i,false)::r,E,H=> ∃o d v,ops[i]? =some o∧o.dst=some d∧d<N∧OpF P N ops o (rst E (o.looksAt ops)) Hs (Is v)∧AB P N ops als Hs K r ((d,v)::E) H
def d0h (ops:Array Oper)(ia:Nat→Bool)(an:List (List Nat))(i:Nat)(b:Bool)(j:Nat)(c:Bool):Bool:=
 match ops[i]?,ops[j]?with
 | some oi,some oj=>
  let waits:=oj.after.any fun e=>Region.binds .any e&&e.on==i
  let anc:=(an.getD j []).contains i
  (i !=j)&&(!b||anc||ia j)&&
  (match oj.dst with
   |some d=>bif c&& !ia j then(!((oi.looksAt ops).contains d||oi.dst==some d))||anc else !(oi.looksAt ops).contains d&&oi.dst !=some d
   |none=>c&& !ia j)&&
  (match oi.dst with
   |some d=> !(oj.looksAt ops).contains d||waits
   |none=>true)
 |_,_=>false
def b0I (ops:Array Oper)(ia:Nat→Bool)(an:List (List Nat)):List (Nat×Bool)→Bool
 | []=>true
 |(i,b)::r=>(b||(match ops[i]?with|some o=>(match o.dst with|some d=> !(o.looksAt ops).contains d|none=>false)|none=>false))&&r.all (fun q=>d0h ops ia an i b q.1 q.2)&&b0I ops ia an r
theorem a0I {ia:Nat→Bool}{an:List (List Nat)}: ∀{pre r:List (Nat×Bool)},b0I ops ia an (pre++r)=true→b0I ops ia an r=true∧ ∀q∈pre,∀s∈r,d0h ops ia an q.1 q.2 s.1 s.2=true
 | [],r,h=>⟨h,fun q hq=>by cases hq⟩
 |(i,b)::pre,r,h=>by
  rw[cA,b0I]at h
  simp only[Bool.and_eq_true,List.all_eq_true]at h
  obtain⟨h1,h2⟩:=a0I h.2
  refine⟨h1,fun q hq s hs=> ?_⟩
  rcases List.mem_cons.1 hq with rfl|hq
  ·exact h.1.2 s (List.mem_append_right _ hs)
  ·exact h2 q hq s hs
structure PairOkB (ops:Array Oper) (ia:Nat→Bool) (an:List (List Nat)) (i:Nat) (b:Bool) (oi:Oper) (j:Nat) (c:Bool) (oj:Oper):Prop where
 ne:i≠j
 main:b=true→ia j=false→i∈an.getD j []
 flt:c=false∨ia j=true→ ∃d,oj.dst=some d∧d∉oi.looksAt ops∧oi.dst≠some d
 mn:c=true→ia j=false→ ∀d,oj.dst=some d→(d∈oi.looksAt ops∨oi.dst=some d)→i∈an.getD j []
 reads: ∀d,oi.dst=some d→d∈oj.looksAt ops→ ∃e∈oj.after,Region.binds .any e=true∧e.on=i
theorem c0V {ia:Nat→Bool}{an:List (List Nat)}{i j:Nat}{b c:Bool}{oi oj:Oper}(h:d0h ops ia an i b j c=true)(hi:ops[i]? =some oi)(hj:ops[j]? =some oj):PairOkB ops ia an i b oi j c oj:=by
 unfold d0h at h
 rw[hi,hj]at h
 simp only[Bool.and_eq_true,bne_iff_ne,ne_eq]at h
 obtain⟨⟨⟨h1,h2⟩,h3⟩,h4⟩:=h
 refine⟨h1,fun hb hj=> ?_,fun hc=> ?_,fun hc hj d hd hm=> ?_,fun d hd hm=> ?_⟩
 ·subst hb;simpa[hj]using h2
 ·have hcj:(c&& !ia j)=false:=by rcases hc with hc|hc<;>simp[hc]
  cases hd:oj.dst with
  |none=>rw[hd]at h3;simp only[hcj]at h3;cases h3
  |some d=>
   rw[hd]at h3
   simp only[hcj,cond_false]at h3
   simp at h3
   exact⟨d,rfl,h3.1,h3.2⟩
 ·subst hc
  have hcj:(true&& !ia j)=true:=by simp[hj]
  rw[hd]at h3
  simp only[hcj,cond_true]at h3
  simp at h3
  rcases h3 with h3|h3
  ·rcases hm with hm|hm
   ·exact absurd hm h3.1
   ·exact absurd hm h3.2
  ·exact h3
 ·rw[hd]at h4
  simp only[Bool.or_eq_true,Bool.not_eq_true',List.contains_eq_mem,decide_eq_false_iff_not]at h4
  rcases h4 with h4|h4
  ·exact absurd hm h4
  ·obtain⟨x,hx,hx2⟩:=g0h h4
   simp only[Bool.and_eq_true,beq_iff_eq]at hx2
   exact⟨x,hx,hx2.1,hx2.2⟩
structure NB (P:Program) (Γ:Cx) (ops:Array Oper) (als:List Al) (Hs:List HE) (K:Env→List HE→Prop) (ord:List (Nat×Bool)) (listed:Array Bool) (A:Act) (W:World) (pre ms:List (Nat×Bool)) (Pd:List Nat) (ea:Nat→Option Nat) (E:Env) (H:List HE) (R:Nat→Prop):Prop where
 size:listed.size=ops.size
 closed:c0u ops listed
 part: ∀i,i<ops.size→(listed.getD i false=false↔(i∈Pd∨i∈ms.map Prod.fst)∧ea i=none)
 ord:ord=pre++ms
 pdp: ∀i∈Pd,(i,false)∈pre
 am:AB P Γ.N ops als Hs K ms E H
 pend: ∀i∈Pd,∃o d v,ops[i]? =some o∧o.dst=some d∧d<Γ.N∧a0t E d=some v∧OpF P Γ.N ops o (rst E (o.looksAt ops)) Hs (Is v)
 rels:RelS Γ R (H++(d0w als ea++Hs)) W
 eal: ∀i b,ea i=some b→ ∃al∈als,al.i=i∧(i,true)∈ms∧A.eval (.tmp al.d)= .pointer (some ⟨b,0,none⟩)
 defers:A.defers= []
 tmps:A.tmps.size=Γ.N
 act: ∀t v,a0t E t=some v→(∀i∈Pd,∀o,ops[i]? =some o→o.dst≠some t)→(∀al∈als,ea al.i≠none→t≠al.d)→RelV R W v (A.eval (.tmp t))
variable {Γ:Cx}{als:List Al}{Hs:List HE}{K:Env→List HE→Prop}{ord:List (Nat×Bool)}
def alsOk (P:Program)(N:Nat)(ops:Array Oper)(als:List Al):Prop:=(als.map Al.i).Nodup∧ ∀al∈als,al.ok P N ops
theorem NB.absorb {listed:Array Bool}{A:Act}{W:World}{R:Nat→Prop}(hok:b0I ops (n0y als) (c0M ops.toList []) ord=true)(hals:alsOk P Γ.N ops als): ∀(ms pre:List (Nat×Bool)) (Pd:List Nat) (ea:Nat→Option Nat) (E:Env) (H:List HE),NB P Γ ops als Hs K ord listed A W pre ms Pd ea E H R→
  ∃pre' ms' Pd' ea' E' H',NB P Γ ops als Hs K ord listed A W pre' ms' Pd' ea' E' H' R∧(ms'= []∨ ∃m r,ms'=(m,true)::r∧ea' m=none)
 | [],pre,Pd,ea,E,H,h=>⟨pre,[],Pd,ea,E,H,h,.inl rfl⟩
 | (m,true)::r,pre,Pd,ea,E,H,h=>by
  cases hea:ea m with
  |none=>exact⟨pre,_,Pd,ea,E,H,h,.inr ⟨m,r,rfl,hea⟩⟩
  | some b=>
   obtain⟨al,halm,rfl, -,hpt⟩:=h.eal m b hea
   have hfa:s0r als al.i=some al:=h0P hals.1 halm
   have hisal:n0y als al.i=true:=by unfold n0y;rw[hfa];rfl
   obtain⟨oa,ho,hd,hN,hg,hop⟩:=hals.2 al halm
   have ham:=h.am
   rw[AB,hfa]at ham
   have hord:=h.ord
   have hq:=a0I (pre:=pre) (r:=(al.i,true)::r) (by rw[←hord];exact hok)
   have hself: ∀i∈Pd,i≠al.i:=fun i hi e=>by
    have:=c0V (hq.2 _ (h.pdp i hi) (al.i,true) (List.mem_cons_self ..)) (by rw[e];exact ho) ho
    exact this.ne e
   have hp: ∀i∈Pd,∀oi,ops[i]? =some oi→al.d∉oi.looksAt ops∧oi.dst≠some al.d:=fun i hi oi hoi=>by
    have:=c0V (hq.2 _ (h.pdp i hi) (al.i,true) (List.mem_cons_self ..)) hoi ho
    obtain⟨d',h1,h2,h3⟩:=this.flt (.inr hisal)
    rw[hd]at h1
    cases h1
    exact⟨h2,h3⟩
   have hnr:al.i∉r.map Prod.fst:=fun hm=>by
    obtain⟨⟨j,c⟩,hq3,hji⟩:=List.mem_map.1 hm
    have h9:=(a0I (pre:=pre++[(al.i,true)]) (r:=r) (by rw[List.append_assoc,List.singleton_append,←hord];exact hok)).2 (al.i,true) (by simp) _ hq3
    simp only at hji
    subst hji
    exact(c0V h9 ho ho).ne rfl
   refine NB.absorb hok hals r (pre++[(al.i,true)]) Pd (upd ea al.i none) ((al.d,.val (.pointer (some ⟨b,0,none⟩)))::E) (al.he b::H) ⟨h.size,h.closed,fun i hi=> ?_,by rw[hord];simp,fun i hi=>List.mem_append_left _ (h.pdp i hi),ham b,fun i hi=> ?_,?_,fun i b' hb'=> ?_,h.defers,h.tmps,fun t x ht hpd hne=> ?_⟩
   ·rw[h.part i hi]
    simp only[List.map_cons,List.mem_cons]
    by_cases hia:i=al.i
    ·subst hia
     rw[d0I,hea]
     constructor
     ·rintro⟨_,h2⟩;cases h2
     ·rintro⟨h1|h1,_⟩
      ·exact absurd rfl (hself _ h1)
      ·exact absurd h1 hnr
    ·rw[b0U _ _ hia]
     refine and_congr_left fun _=> ?_
     constructor
     ·rintro(h1|h1|h1)
      ·exact .inl h1
      ·exact absurd h1 hia
      ·exact .inr h1
     ·rintro(h1|h1)
      ·exact .inl h1
      ·exact .inr (.inr h1)
   ·obtain⟨oi,di,vi,h1,h2,h3,h4,h5⟩:=h.pend i hi
    obtain⟨h6,h7⟩:=hp i hi oi h1
    refine⟨oi,di,vi,h1,h2,h3,?_,by rw[b0e h6];exact h5⟩
    rw[a0L (fun e=>h7 (by rw[h2,e]))];exact h4
   ·refine h.rels.perm ?_
    have h1:=j0J hals.1 halm hea
    show(al.he b::(H++(d0w als (upd ea al.i none)++Hs))).Perm (H++(d0w als ea++Hs))
    refine(List.perm_middle (a:=al.he b) (l₁:=H)).symm.trans ?_
    exact((h1.symm.append_right Hs).append_left H)
   ·by_cases hia:i=al.i
    ·subst hia;rw[d0I]at hb';cases hb'
    ·rw[b0U _ _ hia]at hb'
     obtain⟨al',h1,h2,h3,h4⟩:=h.eal i b' hb'
     refine⟨al',h1,h2,?_,h4⟩
     rcases List.mem_cons.1 h3 with h3|h3
     ·cases h3;exact absurd rfl hia
     ·exact h3
   ·by_cases hdt:al.d=t
    ·subst hdt
     rw[b0p]at ht
     cases ht
     rw[hpt];exact .val _
    ·rw[a0L hdt]at ht
     refine h.act t x ht hpd fun al' hal' hne' e=> ?_
     by_cases hia:al'.i=al.i
     ·have h1:=h0P hals.1 hal'
      rw[hia,hfa]at h1
      cases h1
      exact hdt e.symm
     ·exact hne al' hal' (by rw[b0U _ _ hia];exact hne') e
 | (j,false)::r,pre,Pd,ea,E,H,h=>by
  obtain⟨o,d,v,ho,hd,hN,hop,ham⟩:=h.am
  have hord:=h.ord
  have hq:=a0I (pre:=pre) (r:=(j,false)::r) (by rw[←hord];exact hok)
  have hself:d∉o.looksAt ops:=by
   have:=hq.1
   rw[b0I]at this
   simp only[Bool.and_eq_true,ho,hd,Bool.false_or]at this
   simpa using this.1.1
  have hp: ∀i∈Pd,∀oi,ops[i]? =some oi→d∉oi.looksAt ops∧oi.dst≠some d:=fun i hi oi hoi=>by
   have:=c0V (hq.2 _ (h.pdp i hi) (j,false) (List.mem_cons_self ..)) hoi ho
   obtain⟨d',h1,h2,h3⟩:=this.flt (.inl rfl)
   rw[hd]at h1
   cases h1
   exact⟨h2,h3⟩
  refine NB.absorb hok hals r (pre++[(j,false)]) (j::Pd) ea ((d,v)::E) H ⟨h.size,h.closed,fun i hi=> ?_,by rw[hord];simp,fun i hi=> ?_,ham,fun i hi=> ?_,h.rels,fun i b hb=> ?_,h.defers,h.tmps,fun t x ht hpd hea=> ?_⟩
  ·rw[h.part i hi]
   simp only[List.map_cons,List.mem_cons]
   refine and_congr_left fun _=> ?_
   constructor
   ·rintro(h|h|h)
    ·exact .inl (.inr h)
    ·exact .inl (.inl h)
    ·exact .inr h
   ·rintro((h|h)|h)
    ·exact .inr (.inl h)
    ·exact .inl h
    ·exact .inr (.inr h)
  ·rcases List.mem_cons.1 hi with rfl|hi
   ·simp
   ·exact List.mem_append_left _ (h.pdp i hi)
  ·rcases List.mem_cons.1 hi with rfl|hi
   ·exact⟨o,d,v,ho,hd,hN,b0p,by rw[b0e hself];exact hop⟩
   ·obtain⟨oi,di,vi,h1,h2,h3,h4,h5⟩:=h.pend i hi
    obtain⟨h6,h7⟩:=hp i hi oi h1
    refine⟨oi,di,vi,h1,h2,h3,?_,by rw[b0e h6];exact h5⟩
    rw[a0L (fun e=>h7 (by rw[h2,e]))];exact h4
  ·obtain⟨al,h0,h9,h1,h2⟩:=h.eal i b hb
   refine⟨al,h0,h9,?_,h2⟩
   rcases List.mem_cons.1 h1 with h1|h1
   ·cases h1
   ·exact h1
  ·have hne:d≠t:=fun e=>hpd j (List.mem_cons_self ..) o ho (by rw[hd,e])
   rw[a0L hne]at ht
   exact h.act t x ht (fun i hi=>hpd i (List.mem_cons_of_mem _ hi)) hea
theorem NB.reads {listed:Array Bool}{A:Act}{W:World}{R:Nat→Prop}{pre ms:List (Nat×Bool)}{Pd:List Nat}{ea:Nat→Option Nat}{E:Env}{H:List HE}(hok:b0I ops (n0y als) (c0M ops.toList []) ord=true)(hals:alsOk P Γ.N ops als)(h:NB P Γ ops als Hs K ord listed A W pre ms Pd ea E H R)
  {i:Nat} {b:Bool} {o:Oper} (ho:ops[i]? =some o) (hdeps: ∀e∈o.after,Region.binds .any e=true→listed.getD e.on false=true) (hi:(i,b)∈pre∧i∈Pd∧b=false∨ ∃r,ms=(i,b)::r∧n0y als i=false):RelA Γ.N R W (rst E (o.looksAt ops)) A:=by
 refine⟨h.defers,h.tmps,fun t v ht=> ?_⟩
 obtain⟨htl,ht⟩:=c0E ht
 have hnal: ∀al∈als,ea al.i≠none→t≠al.d:=fun al halm hea e=>by
  obtain⟨oa,hoa,hda, -⟩:=hals.2 al halm
  have hisal:n0y als al.i=true:=by unfold n0y;rw[h0P hals.1 halm];rfl
  obtain⟨b',hb'⟩:=Option.ne_none_iff_exists'.1 hea
  obtain⟨_, -, -,hmem, -⟩:=h.eal _ b' hb'
  have key:d0h ops (n0y als) (c0M ops.toList []) i b al.i true=true→False:=fun hp=>by
   obtain⟨d',h1,h2, -⟩:=(c0V hp ho hoa).flt (.inr hisal)
   rw[hda]at h1;cases h1
   exact h2 (e▸htl)
  rcases hi with⟨hip, -, -⟩|⟨r,hms,hne⟩
  ·exact key ((a0I (pre:=pre) (r:=ms) (by rw[←h.ord];exact hok)).2 _ hip _ hmem)
  ·rw[hms]at hmem
   rcases List.mem_cons.1 hmem with h9|h9
   ·cases h9;rw[hisal]at hne;cases hne
   ·exact key ((a0I (pre:=pre++[(i,b)]) (r:=r) (by have:=h.ord;rw[List.append_assoc,List.singleton_append,←hms,←this];exact hok)).2 (i,b) (by simp) _ h9)
 refine h.act t v ht (fun k hk ok hok' hdk=> ?_) hnal
 have hkp:=h.pdp k hk
 have hkn:ea k=none:=Classical.byContradiction fun hne=>by
  obtain⟨b',hb'⟩:=Option.ne_none_iff_exists'.1 hne
  obtain⟨al,halm,rfl,hmem, -⟩:=h.eal _ b' hb'
  obtain⟨oa,hoa,hda, -⟩:=hals.2 al halm
  exact(c0V ((a0I (pre:=pre) (r:=ms) (by rw[←h.ord];exact hok)).2 _ hkp _ hmem) hok' hoa).ne rfl
 have hkf:listed.getD k false=false:=(h.part k (Array.getElem?_eq_some_iff.1 hok').1).2 ⟨.inl hk,hkn⟩
 have direct:d0h ops (n0y als) (c0M ops.toList []) k false i b=true→False:=fun hp=>by
  obtain⟨e,he,hb,hon⟩:=(c0V hp hok' ho).reads t hdk htl
  have:=hdeps e he hb
  rw[hon,hkf]at this;cases this
 rcases hi with⟨hip,hiP,rfl⟩|⟨r,hms, -⟩
 ·
  obtain⟨p1,p2,hp12⟩:=List.append_of_mem hkp
  have hord:=h.ord
  rw[hp12,List.append_assoc]at hord
  rw[hp12]at hip
  rcases List.mem_append.1 hip with hip|hip
  ·
   have hq:=a0I (pre:=p1) (by rw[←hord];exact hok)
   have:=c0V (hq.2 _ hip (k,false) (List.mem_cons_self ..)) ho hok'
   obtain⟨d',h1,h2, -⟩:=this.flt (.inl rfl)
   rw[hdk]at h1;cases h1
   exact h2 htl
  ·rcases List.mem_cons.1 hip with he|hip
   ·cases he
    have hq:=(a0I (pre:=p1) (by rw[←hord];exact hok)).1
    rw[cA,b0I]at hq
    simp only[Bool.and_eq_true]at hq
    obtain rfl:o=ok:=by rw[ho]at hok';exact Option.some.inj hok'
    have:=hq.1.1
    rw[ho]at this
    simp only[hdk,Bool.false_or]at this
    simp at this
    exact this htl
   ·rw[show p1++((k,false)::p2++ms)=(p1++[(k,false)])++(p2++ms) by simp]at hord
    have hq:=a0I (pre:=p1++[(k,false)]) (by rw[←hord];exact hok)
    exact direct (hq.2 (k,false) (by simp) (i,false) (List.mem_append_left _ hip))
 ·have hq:=a0I (pre:=pre) (r:=ms) (by rw[←h.ord];exact hok)
  exact direct (hq.2 _ hkp (i,b) (by rw[hms];exact List.mem_cons_self ..))
theorem AB.op {i d:Nat}{r:List (Nat×Bool)}{E:Env}{H:List HE}{o:Oper}{v:AV}(ho:ops[i]? =some o)(h:OpW P N o (rst E (o.looksAt ops)) Hs (Is v))(hw:a0e ops (rst E (o.looksAt ops)) o=some true)(hd:o.dst=some d)(hN:Nat.ble (d+1) N=true)(k:AB P N ops als Hs K r ((d,v)::E) H):
  AB P N ops als Hs K ((i,false)::r) E H:=⟨o,d,v,ho,hd,lB hN,.run hw h,k⟩
theorem AB.opG {i d:Nat}{r:List (Nat×Bool)}{E:Env}{H:List HE}{o:Oper}{c:Bool}{v:AV}(ho:ops[i]? =some o)(hw:a0P ops (rst E (o.looksAt ops)) o=some c)(hd:o.dst=some d)(hN:Nat.ble (d+1) N=true)(h:c=true→OpW P N o (rst E (o.looksAt ops)) Hs (Is v))(k:AB P N ops als Hs K r ((d,.opt c v)::E) H):
  AB P N ops als Hs K ((i,false)::r) E H:=⟨o,d,_,ho,hd,lB hN,.opt hw h,k⟩
theorem AB.no {i d:Nat}{r:List (Nat×Bool)}{E:Env}{H:List HE}{o:Oper}(ho:ops[i]? =some o)(hw:a0e ops (rst E (o.looksAt ops)) o=some false)(hd:o.dst=some d)(hN:Nat.ble (d+1) N=true)(k:AB P N ops als Hs K r ((d,.val undef)::E) H):
  AB P N ops als Hs K ((i,false)::r) E H:=⟨o,d,_,ho,hd,lB hN,.no hw,k⟩
theorem AB.main {i:Nat}{r:List (Nat×Bool)}{E:Env}{H:List HE}(o:Oper)(ho:ops[i]? =some o)(hne:n0y als i=false)(h: ∀w0 R0,AO ⟨w0,a0D H,R0,N⟩ P ops (QS ⟨w0,a0D H,R0,N⟩ o.dst (fun v H'=>AB P N ops als Hs K r (a0z o.dst v E) H')) [o] (rst E (o.looksAt ops)) H):
  AB P N ops als Hs K ((i,true)::r) E H:=by
 have:s0r als i=none:=by unfold n0y at hne;exact Option.not_isSome_iff_eq_none.1 (by rw[hne];simp)
 rw[AB,this];exact⟨o,ho,h⟩
theorem AB.box {i:Nat}{r:List (Nat×Bool)}{E:Env}{H:List HE}(al:Al)(he:s0r als i=some al)(k: ∀b,AB P N ops als Hs K r ((al.d,.val (.pointer (some ⟨b,0,none⟩)))::E) (al.he b::H)):AB P N ops als Hs K ((i,true)::r) E H:=by rw[AB,he];exact k
theorem alsOk.nil {P:Program}{N:Nat}{ops:Array Oper}:alsOk P N ops []:=⟨.nil,fun _ h=>by cases h⟩
theorem alsOk.cons {P:Program}{N:Nat}{ops:Array Oper}{al:Al}{als:List Al}(h:al.ok P N ops)(hn:(als.map Al.i).contains al.i=false)(hs:alsOk P N ops als):alsOk P N ops (al::als):=by
 refine⟨?_,fun x hx=> ?_⟩
 ·rw[List.map_cons,List.nodup_cons]
  exact⟨fun hm=>(by rw[List.contains_iff_mem.2 hm]at hn;cases hn),hs.1⟩
 ·rcases List.mem_cons.1 hx with e|hx
  ·rw[e];exact h
  ·exact hs.2 x hx
theorem AB.nil {E:Env}{H:List HE}(h:K E H):AB P N ops als Hs K [] E H:=h
end
end Go.Proofs.YtojomcdjcpmnkaaGreat.A
namespace Go.Proofs.YtojomcdjcpmnkaaGreat.By
open Go.RowKit L A
attribute [local irreducible] AW AQ AO
def r0V:It→Prop
 | .mk k n b l=>l= []∧((k=0∨k=7)∧0≤n∧n<24∧b= []∨(k=2∨k=3)∧n=0∧b.length<24)
def okX:Nat→It→Prop
 |0,x=>r0V x
 |d+1,x=>r0V x∨match x with| .mk k n b l=>k=4∧n=0∧b= []∧l.length<24∧ ∀y∈l,okX d y
theorem e0Z (k n:Int)(hk:0≤k∧k≤7)(hn:0≤n∧n<24):Sp Tryz.prog 166 [.val (.int .i64 k),.val (.int .u64 n)] [] (b0h 5 1 1 (a0a [u8 (32*k+n)])):=by
 have e:32*k+n=((u8 (32*k+n)).toNat:Int):=by rw[a0F (by omega)]
 have e2:a0d (a0p 1 (Value.int IntKind.u8 0)) (0*1) (AV.val (Value.int IntKind.u8 (32*k+n))).cells=a0a [u8 (32*k+n)]:=by
  show [AV.val (.int .u8 (32*k+n))]= [AV.val (.int .u8 ((u8 (32*k+n)).toNat:Int))]
  rw[←e]
 refine yN Tryz.func166 _ Tryz.ntmps166 (fun w0 R0=> ?_)
 refine zD (zr ?_)
 refine zc (zI (zo (zD (zr ?_))))
 refine zb ?_
 refine wE ?_
 refine zA ?_
 refine vT (O.conv rfl rfl (by exact wU8 (by omega))) ?_
 refine zQ ?_
 intro B1
 refine AO.g ?_
 refine xN B1 1 1 0 rfl rfl rfl (Nat.le_refl _) ?_
 refine AO.u ?_
 dsimp only[List.set]
 refine zc (zI (zo (zD (zr ?_))))
 refine zc (zI (zo (zD (xj (zD (zr ?_))))))
 refine zb ?_
 refine vT (O.lss rfl rfl rfl (by exact o0d (by omega))) ?_
 refine zc (zI (zo ?_))
 refine AW.condT rfl (zD (zr ?_))
 refine zb ?_
 refine wE ?_
 refine vT (O.conv rfl rfl (by exact wU8 (by omega))) ?_
 refine zb ?_
 refine vT (O.conv rfl rfl (by exact wU8 (by omega))) ?_
 refine vT (O.add rfl rfl rfl (by exact wU8 (by omega))) ?_
 refine zQ ?_
 intro B2
 refine zc (zI (zo (xc ?_)))
 refine wi (xr ?_)
 refine AQ.g ?_
 refine G.closeRow (n:=1) (cap:=1) 0 rfl rfl rfl (Nat.le_refl _) (by(unfold maxLen;omega)) ?_
 refine AQ.u ?_
 dsimp only[List.set]
 rw[e2]
 refine vu rfl rfl ⟨_,by repeat(first|exact List.Sublist.slnil|refine List.Sublist.cons_cons _ ?_|refine List.Sublist.cons _ ?_),List.Perm.refl _⟩ (⟨_,rfl,rfl,rfl⟩)
theorem r0o (n:Int)(hn:0≤n∧n<24):Sp Tryz.prog 122 [.agg [.val (.int .i64 0),.val (.int .u64 n),roB [],.ro false 0 []]] [] (Is (roB [u8 (32*0+n)])):=by
 refine yN Tryz.func122 _ Tryz.ntmps122 (fun w0 R0=> ?_)
 refine zD (zr ?_)
 refine ye ?_
 intro B1
 refine zc (zI (zo (zD (zr ?_))))
 refine zc (zI (zo (zD (zD (zr ?_)))))
 refine zt ?_
 refine zy (zI (zo (xj (zD (zD (zr ?_))))))
 refine vT (O.eql rfl rfl rfl (by exact beq_iff_eq.2 (by omega))) ?_
 refine zc (zI (zo ?_))
 refine AW.condT rfl (yX (zo ?_))
 refine AW.condT rfl (zD (zr ?_))
 refine zt ?_
 refine zy ?_
 refine zt ?_
 refine zy ?_
 refine vV (xH rfl Tryz.func166 rfl rfl rfl (e0Z _ _ ⟨by omega,by omega⟩ ⟨by omega,by omega⟩)) ?_
 intro V2 hV2
 refine zc (zI (zo (xc ?_)))
 refine wi (xr ?_)
 refine AQ.g ?_
 refine yf 0 [2] ?_
 refine AQ.u ?_
 try dsimp only[List.map,List.eraseIdx,cA,cN]
 refine yE
theorem r0n (n:Int)(hn:0≤n∧n<24):Sp Tryz.prog 122 [.agg [.val (.int .i64 7),.val (.int .u64 n),roB [],.ro false 0 []]] [] (Is (roB [u8 (32*7+n)])):=by
 have e:224+n=((u8 (32*7+n)).toNat:Int):=by rw[a0F (by omega)];omega
 refine yN Tryz.func122 _ Tryz.ntmps122 (fun w0 R0=> ?_)
 refine zD (zr ?_)
 refine ye ?_
 intro B1
 refine zc (zI (zo (zD (zr ?_))))
 refine zc (zI (zo (zD (zD (zr ?_)))))
 refine zt ?_
 refine zy (zI (zo (xj (zD (zD (zr ?_))))))
 refine vT (O.eql rfl rfl rfl (by exact beq_eq_false_iff_ne.2 (by omega))) ?_
 refine zc (zI (zo ?_))
 refine AW.condF rfl (zr ?_)
 refine vT (O.eql rfl rfl rfl (by exact beq_eq_false_iff_ne.2 (by omega))) ?_
 refine zc (zI (zo ?_))
 refine AW.condF rfl (zD (zD (zr ?_)))
 refine vT (O.eql rfl rfl rfl (by exact beq_eq_false_iff_ne.2 (by omega))) ?_
 refine zc (zI (zo ?_))
 refine AW.condF rfl (zr ?_)
 refine vT (O.eql rfl rfl rfl (by exact beq_eq_false_iff_ne.2 (by omega))) ?_
 refine zc (zI (zo ?_))
 refine AW.condF rfl (zD (zr ?_))
 refine vT (O.eql rfl rfl rfl (by exact beq_eq_false_iff_ne.2 (by omega))) ?_
 refine zc (zI (zo ?_))
 refine AW.condF rfl (zD (zr ?_))
 refine vT (O.eql rfl rfl rfl (by exact beq_eq_false_iff_ne.2 (by omega))) ?_
 refine zc (zI (zo ?_))
 refine AW.condF rfl (zD (zr ?_))
 refine vT (O.eql rfl rfl rfl (by exact beq_eq_false_iff_ne.2 (by omega))) ?_
 refine zc (zI (zo ?_))
 refine AW.condF rfl (zD (zr ?_))
 refine vT (O.eql rfl rfl rfl (by exact beq_iff_eq.2 (by omega))) ?_
 refine zc (zI (zo ?_))
 refine AW.condT rfl (zD (zD (zr ?_)))
 refine zt ?_
 refine zy ?_
 refine vT (O.lss rfl rfl rfl (by exact o0d (by omega))) (zI (zo ?_))
 refine AW.condT rfl (zD (zr ?_))
 refine zt ?_
 refine zy ?_
 refine vT (O.add rfl rfl rfl (by exact o0v (by omega))) ?_
 refine vT (O.conv rfl rfl (by exact wU8 (by omega))) ?_
 refine zQ ?_
 intro B2
 refine zc (zI (zo (xc (xr ?_))))
 refine wi (xr ?_)
 refine AQ.g ?_
 refine G.freezeSl 0 2 rfl rfl ⟨Nat.le_refl _,by unfold maxLen;omega⟩ ?_;refine G.unfull 2 rfl ?_
 refine AQ.u ?_
 try dsimp only[List.map,List.eraseIdx,cA,cN]
 refine vu rfl rfl nS (⟨by show AV.ro false 1 [.val (.int .u8 (224+n))]=_;rw[e];rfl,rfl⟩)
theorem r0p (k:Int)(b:List UInt8)(hk:k=2∨k=3)(hb:b.length<24):Sp Tryz.prog 122 [.agg [.val (.int .i64 k),.val (.int .u64 0),roB b,.ro false 0 []]] [] (Is (roB (u8 (32*k+(b.length:Int))::b))):=by
 have e1:a0a [u8 (32*k+(b.length:Int))]++a0a b=a0a (u8 (32*k+(b.length:Int))::b):=rfl
 have e2:1+b.length=(u8 (32*k+(b.length:Int))::b).length:=by rw[cL];omega
 refine yN Tryz.func122 _ Tryz.ntmps122 (fun w0 R0=> ?_)
 refine zD (zr ?_)
 refine ye ?_
 intro B1
 refine zc (zI (zo (zD (zr ?_))))
 refine zc (zI (zo (zD (zD (zr ?_)))))
 refine zt ?_
 refine zy (zI (zo (xj (zD (zD (zr ?_))))))
 refine vT (O.eql rfl rfl rfl (by exact beq_eq_false_iff_ne.2 (by omega))) ?_
 refine zc (zI (zo ?_))
 refine AW.condF rfl (zr ?_)
 refine vT (O.eql rfl rfl rfl (by exact beq_eq_false_iff_ne.2 (by omega))) ?_
 refine zc (zI (zo ?_))
 refine AW.condF rfl (zD (zD (zr ?_)))
 refine z9 ?_
 refine zc (zI (zo ?_))
 rcases hk with rfl|rfl
 ·refine AW.condT rfl (yX (zo ?_))
  refine AW.condT rfl (zD ?_)
  refine yw 9 ?_
  simp only[cT,cZ,cD,cO]
  refine yr ?_
  refine yL ?_
  refine yr ?_
  refine yL ?_
  refine vS (xW rfl rfl) ?_
  refine vS (vj rfl rfl) ?_
  refine FA.opN (xH rfl Tryz.func166 rfl rfl rfl (e0Z _ _ ⟨by omega,by omega⟩ ⟨by omega,by omega⟩)) rfl rfl rfl rfl ?_
  refine yr ?_
  refine yL ?_
  refine wZ ?_
  simp only[a0f,cN,cA,cP]
  rintro _ _ ⟨V2,rfl,hV2,rfl⟩
  simp only[cA,cN]
  refine zH 0 ?_
  intro V3 hV3
  refine zc (zI (zo (xc ?_)))
  refine wi (xr ?_)
  rw[e1,e2]
  refine AQ.g ?_
  refine yf 0 [2] ?_
  refine AQ.u ?_
  try dsimp only[List.map,List.eraseIdx,cA,cN]
  refine yE
 ·refine AW.condF rfl (zr ?_)
  refine vT (O.eql rfl rfl rfl (by exact beq_iff_eq.2 (by omega))) ?_
  refine zc (zI (zo ?_))
  refine AW.condT rfl (zD ?_)
  refine yw 9 ?_
  simp only[cT,cZ,cD,cO]
  refine yr ?_
  refine yL ?_
  refine yr ?_
  refine yL ?_
  refine vS (xW rfl rfl) ?_
  refine vS (vj rfl rfl) ?_
  refine FA.opN (xH rfl Tryz.func166 rfl rfl rfl (e0Z _ _ ⟨by omega,by omega⟩ ⟨by omega,by omega⟩)) rfl rfl rfl rfl ?_
  refine yr ?_
  refine yL ?_
  refine wZ ?_
  simp only[a0f,cN,cA,cP]
  rintro _ _ ⟨V2,rfl,hV2,rfl⟩
  simp only[cA,cN]
  refine zH 0 ?_
  intro V3 hV3
  refine zc (zI (zo (xc ?_)))
  refine wi (xr ?_)
  rw[e1,e2]
  refine AQ.g ?_
  refine yf 0 [2] ?_
  refine AQ.u ?_
  try dsimp only[List.map,List.eraseIdx,cA,cN]
  refine yE
 skip
abbrev g0v (x:It):Prop:=Sp Tryz.prog 122 [.agg x.cells] [] (Is (roB x.enc))
theorem k0w {x:It}(h:r0V x):g0v x:=by
 obtain⟨k,n,b,l⟩:=x
 unfold g0v
 rcases h with⟨rfl,⟨rfl|rfl,hn,hn2,rfl⟩|⟨hk,rfl,hb⟩⟩
 ·rw[d0k,It.cells,d0U]
  exact r0o n ⟨hn,hn2⟩
 ·rw[d0k,It.cells,d0U]
  exact r0n n ⟨hn,hn2⟩
 rw[d0k,It.cells,d0U,show hnI k 0 b 0=(b.length:Int)from if_pos hk]
 exact r0p k b hk hb
theorem r0m {l:List It}(hm:l.length<24)(he:(c0b l).length≤100000)(hS: ∀q,q<l.length→g0v (o0t l q)):g0v (.mk 4 0 [] l):=by
 unfold g0v
 rw[j0H]
 show Sp Tryz.prog 122 [.agg [.val (.int .i64 4),.val (.int .u64 0),roB [],.ro false l.length (d0U l)]] [] _
 refine yN Tryz.func122 _ Tryz.ntmps122 (fun w0 R0=> ?_)
 refine zD (zr ?_)
 refine ye ?_
 intro B1
 refine zc (zI (zo (zD (zr ?_))))
 refine zc (zI (zo (zD (zD (zr ?_)))))
 refine zt ?_
 refine zy (zI (zo (xj (zD (zD (zr ?_))))))
 refine vT (O.eql rfl rfl rfl (by exact beq_eq_false_iff_ne.2 (by omega))) ?_
 refine zc (zI (zo ?_))
 refine AW.condF rfl (zr ?_)
 refine vT (O.eql rfl rfl rfl (by exact beq_eq_false_iff_ne.2 (by omega))) ?_
 refine zc (zI (zo ?_))
 refine AW.condF rfl (zD (zD (zr ?_)))
 refine vT (O.eql rfl rfl rfl (by exact beq_eq_false_iff_ne.2 (by omega))) ?_
 refine zc (zI (zo ?_))
 refine AW.condF rfl (zr ?_)
 refine vT (O.eql rfl rfl rfl (by exact beq_eq_false_iff_ne.2 (by omega))) ?_
 refine zc (zI (zo ?_))
 refine AW.condF rfl (zD (zr ?_))
 refine vT (O.eql rfl rfl rfl (by exact beq_iff_eq.2 (by omega))) ?_
 refine zc (zI (zo ?_))
 refine AW.condT rfl (zr ?_)
 refine zt ?_
 refine zy ?_
 refine zW ?_
 refine wa ?_
 refine vV (xH rfl Tryz.func166 rfl rfl rfl (e0Z _ _ ⟨by omega,by omega⟩ ⟨by omega,by omega⟩)) ?_
 intro V2 hV2
 refine zc (zI (xz (zo (zD (zD (zr ?_))))))
 refine zt ?_
 refine zn ?_
 refine zW ?_
 refine zb (zI (zo (xj ?_)))
 have hnl: ∀k,k≤l.length→(c0b (l.take k)).length≤(c0b l).length:=fun k hk=>by
  have h6:=congrArg List.length (f0X (l.take k) (l.drop k))
  rw[List.take_append_drop,cH]at h6
  omega
 obtain⟨h0,hh0⟩: ∃h0,h0=u8 (32*4+(l.length:Int)):=⟨_,rfl⟩
 rw[←hh0]
 refine zh [(67,_),(68,_)] (fun nn E H=> ∃(k:Nat) (V:Value) (o:List UInt8),(k≤l.length)∧(V.oneCell'=true)∧(o=h0::c0b (l.take k))∧nn=l.length-k∧E= [(3,.val V),(69,.val (.int .i64 (k:Int)))]∧H= [.row V 5 1 o.length (a0a o),.blk B1 147 4 [.val (.int .i64 4),.val (.int .u64 0),roB [],.ro false l.length (d0U l)]]) _ (⟨0,_,[h0],by omega,‹_›,rfl,rfl,rfl,rfl⟩) ?_
 rintro nn E H ⟨k,V,o,hk,hV,ho,rfl,rfl,rfl⟩
 dsimp only[cA,cN]
 have hol:o.length=1+(c0b (l.take k)).length:=by rw[ho,cL];omega
 have hkl:=hnl k hk
 refine zD (zr ?_)
 refine zP (zI (zo (zD ?_)))
 refine yk (fun hlt=> ?_) (fun hlt=> ?_)<;>(try simp only[vX]at hlt)
 ·have hkl:k<l.length:=by omega
  obtain⟨kk,nn',bb,ll,hx⟩: ∃kk nn' bb ll,o0t l k= .mk kk nn' bb ll:=by cases h:o0t l k;exact⟨_,_,_,_,rfl⟩
  have hg:((d0U l).drop (Int.toNat (k:Int)*4)).take 4= [.val (.int .i64 kk),.val (.int .u64 nn'),roB bb,.ro false ll.length (d0U ll)]:=by
   rw[t0O hkl (by omega),hx,It.cells]
  have hSk:=hS k hkl
  rw[hx]at hSk
  unfold g0v at hSk
  rw[It.cells]at hSk
  have hsn:=a0g itN hkl
  have e1:=g0U (l.take k) (o0t l k)
  rw[←hsn,hx]at e1
  have h5:=hnl (k+1) (by omega)
  have e2:=congrArg List.length e1
  rw[cH]at e2
  generalize(It.mk kk nn' bb ll).enc=en at*
  refine yX (zo (zD (xj (zD (zr ?_)))))
  refine z8 ?_
  refine vT (O.loadRK rfl rfl (by exact hg) (by rfl)) ?_
  refine zd ?_
  intro B3
  refine za 0 (zI (zo (zr ?_)))
  refine zb ?_
  refine vf ?_
  refine vT (xH rfl Tryz.func122 rfl rfl rfl hSk) ?_
  refine zH 1 ?_
  intro V4 hV4
  refine zc (zI (xz (zo (zr ?_))))
  refine zA ?_
  refine zb (zI ?_)
  rw[show a0a o++a0a en=a0a (o++en)from(a0O _ _).symm,show o.length+en.length=(o++en).length from List.length_append.symm]
  refine zJ _ _ _ (by omega) (⟨k+1,_,o++en,by omega,‹_›,by rw[ho,e1];rfl,rfl,rfl,rfl⟩)
 obtain rfl:k=l.length:=by omega
 rw[List.take_length]at ho
 subst ho
 refine wb ?_
 refine xY ?_
 refine x3 ?_
 refine xx (zo (zD (zr ?_)))
 refine zb ?_
 refine zc (zI (zo (xc ?_)))
 refine AQ.g ?_
 refine yf 0 [2] ?_
 refine AQ.u ?_
 try dsimp only[List.map,List.eraseIdx,cA,cN]
 refine yE
theorem f0B: ∀(d:Nat) (x:It),okX d x→x.enc.length≤100000→g0v x
 |0,x,h,_=>k0w h
 |d+1,.mk k n b l,h,he=>by
  rcases h with h|⟨rfl,rfl,rfl,h4,h5⟩
  ·exact k0w h
  have he2:(c0b l).length≤100000:=by rw[j0H,cL]at he;omega
  refine r0m h4 he2 fun q hq=>f0B d _ (h5 _ (b0f itN hq)) ?_
  have h6:=congrArg List.length (f0X (l.take q) (l.drop q))
  have h7:=congrArg List.length (g0U (l.take q) (o0t l q))
  have h8:=congrArg List.length (f0X (l.take (q+1)) (l.drop (q+1)))
  rw[←a0g itN hq]at h7
  rw[List.take_append_drop,cH]at h8
  rw[cH]at h7
  omega
end Go.Proofs.YtojomcdjcpmnkaaGreat.By
namespace Go.Proofs.YtojomcdjcpmnkaaGreat.A
open Go.RowKit L
section
variable {Γ:Cx}{P:Program}{Q:Exit→Act→World→Prop}{E:Env}{H:List HE}{N:Nat}{o:Oper}{ops:Array Oper}{rest:List Oper}
theorem AO.callMV {f:FuncId}{g:Operand}{cap:List AV}{d:Nat}{xs:List Operand}{ats:Array TypeId}{args:List AV}{H0 H1:List HE}{Post:AV→List HE→Prop}{fn:Func}(ho:o.op= .call {callee:= .value g,args:=xs.toArray,argTypes:=ats})(hgd:o.guard=none)(hg:ev E g=some (.fn (.func f) cap))(hfn:P.funcs[f]? =some fn)(hn:(fn.name== "runtime.NumGoroutine")=false)(hb:fn.body.isNone=false)
  (hx:evs E xs=some args) (hd:o.dst=some d) (hN:d<Γ.N) (hH:H.Perm (H0++H1)) (h:Sp P f (args++cap) H0 Post) (next: ∀r H',Post r H'→AO Γ P ops Q rest ((d,r)::E) (H'++H1)):AO Γ P ops Q (o::rest) E H:=fun R a W hs ha=>by
 have hs0:=hs.perm hH.symm
 obtain⟨cs,h4,h5⟩:=(ha.ev hg).fn_inv
 have hrun:(execOp a.eval o).run P W= .ok (.enter f ((xs.map a.eval)++cs).toArray) W:=by
  simp[execOp,ho,resolve,Deferred.ofValue,h4,invoke,callFunc,hfn]
  rw[if_neg (by simpa using hn),if_neg (fun e=>by rw[e]at hb;cases hb)]
 have hc:=h W R (xs.map a.eval++cs) hs.rlt (fun e he=>⟨hs0.ok e (List.mem_append_left _ he),fun b hb=>(hs0.own e (List.mem_append_left _ he) b hb).2⟩) (List.pairwise_append.1 hs0.disj).1 ((ha.evs hx).app h5)
 unfold wpList
 rw[if_pos (by unfold Region.wanted;rw[hgd])]
 refine .inl ?_
 unfold Oper.wp
 rw[hrun]
 refine Calls.mono hc ?_
 rintro e W' ⟨u,r,H',R',rfl,hP,hs',hv⟩
 show wpList P ops Q rest (a.put o.dst u) W'
 rw[hd]
 have hS0: ∀b,a0D H0 b→Γ.w0.heap.size≤b∨Γ.S b:=fun b ⟨e,he,hb⟩=>(hs0.own e (List.mem_append_left _ he) b hb).1
 have hnR: ∀b,a0D H0 b→ ¬R b:=fun b ⟨e,he,hb⟩=>(hs0.own e (List.mem_append_left _ he) b hb).2
 have h1lt: ∀e∈H1,∀b,e.foot b→b<W.heap.size:=fun e he b hb=>HE.ok_lt (hs0.ok e (List.mem_append_right _ he)) hb
 have h10: ∀e∈H1,∀b,e.foot b→ ¬a0D H0 b:=fun e he b hb ⟨f,hf,hb'⟩=>(List.pairwise_append.1 hs0.disj).2.2 f hf e he b hb' hb
 have hR: ∀b,R b→W'.heap[b]? =W.heap[b]? :=fun b hb=>hs'.mods.block b (hs.rlt b hb) fun hh=>hnR b hh hb
 refine next r H' hP R' _ W' ⟨Mods.then hs.mods hs'.mods fun b hb hh=> ?_,hs'.rlt,fun b hb=>hs'.rsub b (hs.rsub b hb),fun b hb=> ?_,?_,?_,?_⟩ ((ha.mono hs'.rsub hR).put hN hv)
 ·rcases hS0 b hh with h|h
  ·omega
  ·exact h
 ·rcases hs'.rnew b hb with h|h|h
  ·exact hs.rnew b h
  ·exact .inr (.inl (Nat.le_trans hs.mods.size h))
  ·exact .inr (hS0 b h)
 ·intro e he
  rcases List.mem_append.1 he with he|he
  ·exact hs'.ok e he
  ·exact HE.ok_mono hs'.rsub hR hs'.mods.size (fun b hb=>hs'.mods.block b (h1lt e he b hb) (h10 e he b hb)) (hs0.ok e (List.mem_append_right _ he))
 ·intro e he b hb
  rcases List.mem_append.1 he with he|he
  ·obtain⟨h2,h3⟩:=hs'.own e he b hb
   refine⟨?_,h3⟩
   rcases h2 with h2|h2
   ·exact .inl (Nat.le_trans hs.mods.size h2)
   ·exact hS0 b h2
  ·refine⟨(hs0.own e (List.mem_append_right _ he) b hb).1,fun hr=> ?_⟩
   rcases hs'.rnew b hr with h|h|h
   ·exact(hs0.own e (List.mem_append_right _ he) b hb).2 h
   ·have h5:=h1lt e he b hb
    exact absurd h (by simpa using h5)
   ·exact h10 e he b hb h
 ·rw[List.pairwise_append]
  refine⟨hs'.disj,(List.pairwise_append.1 hs0.disj).2.1,fun e he f hf b hb hb'=> ?_⟩
  rcases(hs'.own e he b hb).1 with h|h
  ·have h5:=h1lt f hf b hb'
   exact absurd h (by simpa using h5)
  ·exact h10 f hf b hb' h
theorem AO.callMV1 {f:FuncId}{g:Operand}{cap:List AV}{d:Nat}{xs:List Operand}{ats:Array TypeId}{args:List AV}{i:Nat}{e e':HE}{v:AV}{H':List HE}{fn:Func}(ho:o.op= .call {callee:= .value g,args:=xs.toArray,argTypes:=ats})(hgd:o.guard=none)(hg:ev E g=some (.fn (.func f) cap))(hfn:P.funcs[f]? =some fn)(hn:(fn.name== "runtime.NumGoroutine")=false)(hb:fn.body.isNone=false)
  (hx:evs E xs=some args) (hd:o.dst=some d) (hN:Nat.ble (d+1) Γ.N=true) (hi:H[i]? =some e) (h:Sp P f (args++cap) [e] (IsM v e')) (hH:H.set i e'=H') (next:AO Γ P ops Q rest ((d,v)::E) H'):AO Γ P ops Q (o::rest) E H:=
 AO.callMV (H0:= [e]) (H1:=H.eraseIdx i) ho hgd hg hfn hn hb hx hd (lB hN) (d0R hi) h (by
  rintro _ _ ⟨rfl,rfl⟩
  exact AO.perm (by rw[←hH];exact h0s hi) next)
theorem d0M {R:Nat→Prop}{W:World}{a:Act}{low high:Option Operand}{n cap:Nat}{l h:Int}(ha:RelA N R W E a)(hl:c0G E low 0=some l)(hh:c0G E high n=some h)(h0:0≤l∧l≤h∧h≤cap):
  (Instr.sliceBounds false n cap (low.map a.eval) (high.map a.eval) none).run P W= .ok (l.toNat,h.toNat,cap) W:=by
 obtain⟨h1,h2,hhc⟩:=h0
 cases high with
 | none=>
  obtain rfl:(n:Int)=h:=by simpa[c0G]using hh
  cases low with
  |none=>
   obtain rfl:(0:Int)=l:=by simpa[c0G]using hl
   simp[Instr.sliceBounds]
  |some x=>
   obtain⟨k,hk⟩:=e0b ha hl
   simp[Instr.sliceBounds,Instr.sliceBound,hk,asIntOf,h1,h2]
 | some y=>
  obtain⟨k',hk'⟩:=e0b ha hh
  have h4:0≤h:=by omega
  cases low with
  |none=>
   obtain rfl:(0:Int)=l:=by simpa[c0G]using hl
   simp[Instr.sliceBounds,Instr.sliceBound,hk',asIntOf,h4,hhc]
  |some x=>
   obtain⟨k,hk⟩:=e0b ha hl
   have h5:l≤max h 0:=by omega
   simp[Instr.sliceBounds,Instr.sliceBound,hk,hk',asIntOf,h1,h4,hhc]
   omega
theorem O.sliceArr {T:Nat}{x:Operand}{low high:Option Operand}{b off n:Nat}{l h:Int}{sz:Nat}[hs:TyL P T n sz](ho:o.op= .slice T x low high none)(hx:ev E x=some (.val (.pointer (some ⟨b,off,none⟩))))(hl:c0G E low 0=some l)(hh:c0G E high n=some h)(h0:0≤l∧l≤h∧h≤n)
  (hc:l<n):OpW P N o E H (Is (.val (.slice (some ⟨b,off+l.toNat*sz,none⟩) (h.toNat-l.toNat) (n-l.toNat)))):= .of_run fun R a W h1 h2 ha=>by
 obtain⟨U,i,hu,hi,hi2⟩:=hs.ax
 have hb:=d0M (P:=P) (W:=W) ha hl hh h0
 refine⟨_,?_,.val _⟩
 have hne: ¬n=l.toNat:=by omega
 simp only[execOp,ho,(ha.ev hx).val_inv,Instr.sliceAt,Instr.sureAddr,run_underlying hu,Sem.run_bind,Result.andThen_ok,hb,sizeOf,typeInfo,hi,hi2,run_program,Sem.run_pure,Option.map_none]
 simp[hne,a0K]
theorem O.sliceArrR {T:Nat}{x:Operand}{low high:Option Operand}{j n m:Nat}{xs ys:List AV}{l h:Int}{sz:Nat}[hs:TyL P T n sz](ho:o.op= .slice T x low high none)(hx:ev E x=some (.rp xs j))(hl:c0G E low 0=some l)(hh:c0G E high n=some h)(h0:0≤l∧l≤h∧h≤n)
  (hc:l<n) (hn:n≤maxLen) (hm:h.toNat-l.toNat=m) (hy:(xs.drop (j+l.toNat*sz)).take (m*sz)=ys):OpW P N o E H (Is (.ro false m ys)):= .of_run fun R a W h1 h2 ha=>by
 obtain⟨U,i,hu,hi,hi2⟩:=hs.ax
 have hb:=d0M (P:=P) (W:=W) ha hl hh h0
 have hv:=ha.ev hx
 generalize hux:a.eval x=u at*
 cases hv with
 | rp _ _ b off us hb' hcs hr=>
  have hne: ¬n=l.toNat:=by omega
  refine⟨.slice (some ⟨b,off+(j+l.toNat*sz),none⟩) (h.toNat-l.toNat) (n-l.toNat),?_,?_⟩
  ·simp only[execOp,ho,hux,Instr.sliceAt,Instr.sureAddr,run_underlying hu,Sem.run_bind,Result.andThen_ok,hb,sizeOf,typeInfo,hi,hi2,run_program,Sem.run_pure,Option.map_none]
   simp[hne,a0K,Nat.add_assoc]
  ·rw[hm]
   subst hy
   refine .ro _ _ _ b (off+(j+l.toNat*sz)) _ (fun q=>us (j+l.toNat*sz+q)) hb' (fun q hq=> ?_) (fun q hq=> ?_) (by omega) (by omega) (fun h=>by cases h)
   ·simp at hq
    rw[Nat.add_assoc]
    exact hcs _ (by omega)
   ·simp only[List.getElem_take,List.getElem_drop]
    simp at hq
    exact hr _ (by omega)
theorem O.sliceArrK {p q:Nat}{T:Nat}{x:Operand}{low high:Option Operand}{b off n:Nat}{l h:Int}{sz:Nat}[hs:TyL P T n sz](ho:o.op= .slice T x low high none)(hx:ev E x=some (.val (.pointer (some ⟨b,off,none⟩))))(hl:c0G E low 0=some l)(hh:c0G E high n=some h)(e1:l=(p:Int))(e2:h=(q:Int))(h0:p≤q∧q≤n)
  (hc:p<n):OpW P N o E H (Is (.val (.slice (some ⟨b,off+p*sz,none⟩) (q-p) (n-p)))):=by
 subst e1;subst e2
 have:=O.sliceArr (P:=P) (N:=N) (H:=H) ho hx hl hh ⟨by omega,by omega,by omega⟩ (by omega)
 simpa using this
theorem O.sliceArrRK {p q:Nat}{T:Nat}{x:Operand}{low high:Option Operand}{j n:Nat}{xs ys:List AV}{l h:Int}{sz:Nat}[hs:TyL P T n sz](ho:o.op= .slice T x low high none)(hx:ev E x=some (.rp xs j))(hl:c0G E low 0=some l)(hh:c0G E high n=some h)(e1:l=(p:Int))(e2:h=(q:Int))(h0:p≤q∧q≤n)
  (hc:p<n) (hn:n≤maxLen) (hy:(xs.drop (j+p*sz)).take ((q-p)*sz)=ys):OpW P N o E H (Is (.ro false (q-p) ys)):=by
 subst e1;subst e2
 exact O.sliceArrR (P:=P) (N:=N) (H:=H) ho hx hl hh ⟨by omega,by omega,by omega⟩ (by omega) hn (by simp) (by simpa using hy)
theorem O.toArr {T:Nat}{x:Operand}{full:Bool}{n k sz:Nat}{xs:List AV}[hs:TyL P T k sz](ho:o.op= .sliceToArrayPointer T x)(hx:ev E x=some (.ro full n xs))(hk:k≤n)(hk0:0<k):OpW P N o E H (Is (.rp xs 0)):= .of_run fun R a W h1 h2 ha=>by
 obtain⟨U,i,hu,hi,hi2⟩:=hs.ax
 have hv:=ha.ev hx
 generalize hux:a.eval x=u at*
 cases hv with
 |emp _ ad cap h3 h4=>omega
 |ro _ _ _ b off cap us hb' hcs hr h3 h4 h5=>
  refine⟨.pointer (some ⟨b,off,none⟩),?_,?_⟩
  ·simp[execOp,ho,hux,Instr.arrayAt,run_underlying hu,Nat.not_lt.2 hk]
  ·exact .rp xs 0 b off us hb' hcs hr
theorem p0T {p:AV→Bool}: ∀{xs:List AV} (n:Nat),xs.all p=true→(xs.take n).all p=true:=fun{xs} n h=>by
 rw[List.all_eq_true]at h⊢
 exact fun x hx=>h x (List.mem_of_mem_take hx)
theorem AO.copyIn {Td Ts:Nat}{x y:Operand}{b off n c m i T' room U bs:Nat}{full:Bool}{ys xs zs:List AV}{zz:Value}{H':List HE}{d:Option Tmp}[hs:TyS P Td U 1 bs zz](ho:o.op= .call {callee:= .builtin .copy,args:= #[x,y],argTypes:= #[Td,Ts]})(hgd:o.guard=none)
  (hx:ev E x=some (.val (.slice (some ⟨b,off,none⟩) n c))) (hy:ev E y=some (.ro full m ys)) (hlen:ys.length=m) (hone:ys.all AV.one=true) (hi:H[i]? =some (.blk b T' room xs)) (hfit:off+min m n≤xs.length) (hz:a0d xs off (ys.take (min m n))=zs) (hH:H.set i (.blk b T' room zs)=H')
  (hd:o.dst=d) (hN: ∀q,d=some q→q<Γ.N) (next: ∀E',(E'=match d with|some q=>(q,.val (.int .i64 (min m n:Nat)))::E|none=>E)→AO Γ P ops Q rest E' H'):AO Γ P ops Q (o::rest) E H:=fun R a W hs' ha=>by
 have hmem:=List.mem_of_getElem? hi
 obtain⟨us,cs,hb,hsz,ht,hr⟩:=hs'.ok _ hmem
 have hxs:xs.length≤cs.size:=by
  have:=hr.1
  have h5:cs.toList.length=cs.size:=Array.length_toList
  rw[←ht,List.length_take]at this;omega
 obtain⟨vs,hvl,hvr,hrun⟩: ∃vs:List Value,vs.length=min m n∧RelL R W (ys.take (min m n)) vs∧(Builtin.copy_ #[Td,Ts] o.type #[a.eval x,a.eval y]).run P W= .ok (goInt ((min m n:Nat):Int)) (if min m n=0 then W else W.setRow b (cs.toList.take off++vs++cs.toList.drop (off+min m n)).toArray):=by
  obtain⟨inf,hi1,hi2, -⟩:=hs.el
  have hsz1:(P.info? U).map (·.size)=some 1:=by rw[hi1];simp[hi2]
  have hvx:=(ha.ev hx).val_inv
  have hvy:=ha.ev hy
  rw[hvx]
  generalize hux:a.eval y=u at*
  cases hvy with
  |emp _ ad cap h3 h4=>
   refine⟨[],by simp,⟨by simp,by simp⟩,?_⟩
   have:=run_copy_none (P:=P) W Td Ts o.type U (some ⟨b,off,none⟩) ad n c 0 cap hs.ty hsz1 (by simp)
   rw[this];simp[Nat.min_eq_left (Nat.zero_le n)]
  | ro _ _ _ b2 off2 cap us2 hb' hcs hr2 h3 h4 h5=>
   by_cases h0:min m n=0
   ·refine⟨[],by simp[h0],by rw[h0];exact⟨by simp,by simp⟩,?_⟩
    have:=run_copy_none (P:=P) W Td Ts o.type U (some ⟨b,off,none⟩) (some ⟨b2,off2,none⟩) n c m cap hs.ty hsz1 h0
    rw[this,if_pos h0,h0];rfl
   ·let vs:=(List.range (min m n)).map us2
    have hvs: ∀q (hq:q<min m n),vs[q]? =some (us2 q):=fun q hq=>by simp[vs,hq]
    have hvsl:vs.length=min m n:=by simp[vs]
    refine⟨vs,hvsl,⟨by rw[List.length_take,hvsl,hlen];omega,fun q hq=> ?_⟩,?_⟩
    ·rw[List.length_take,hlen]at hq
     have hq':q<min m n:=by omega
     have:=hr2 q (by rw[hlen];omega)
     simp only[List.getElem_take]
     rw[List.getD,hvs q hq']
     exact this
    ·have h1: ∀v∈vs,v.oneCell'=true:=fun v hv=>by
      obtain⟨q,hq,rfl⟩:=List.mem_map.1 hv
      have hq:=List.mem_range.1 hq
      have hql:q<ys.length:=by rw[hlen];omega
      exact(hr2 q hql).one (by rw[List.all_eq_true]at hone;exact hone _ (List.getElem_mem hql))
     have:=run_copy_row (P:=P) W Td Ts o.type U b off n c ⟨b2,off2,none⟩ m cap cs T' vs hs.ty hsz1 hb (by rw[hvsl]) (fun q v hq=>by
      have hql:q<min m n:=by have:=(List.getElem?_eq_some_iff.1 hq).1;omega
      rw[hvs q hql]at hq
      cases hq
      rw[a0K]
      exact hcs q (by rw[hlen];omega)) (by rw[hvsl];omega) h1
     rw[this,if_neg h0,hvsl]
 have hone': ∀v∈vs,v.oneCell'=true:=fun v hv=>by
  obtain⟨q,hq,rfl⟩:=List.getElem_of_mem hv
  have hql:q<(ys.take (min m n)).length:=by rw[←hvr.1];exact hq
  have h6:=hvr.2 q hql
  have h7:=p0T (min m n) hone
  rw[List.all_eq_true]at h7
  have:=h6.one (h7 _ (List.getElem_mem hql))
  simpa[List.getD,hq]using this
 have hylen:(ys.take (min m n)).length=min m n:=by rw[←hvr.1,hvl]
 unfold wpList
 rw[if_pos (by unfold Region.wanted;rw[hgd])]
 refine .inl ?_
 unfold Oper.wp
 have hex:(execOp a.eval o).run P W= .ok (.value (.int .i64 (min m n:Nat))) (if min m n=0 then W else W.setRow b (cs.toList.take off++vs++cs.toList.drop (off+min m n)).toArray):=by
  simp[execOp,ho,resolve,invoke,builtin,hrun,Result.andThen,goInt]
 rw[hex]
 show wpList P ops Q rest (a.put o.dst _) _
 rw[hd]
 subst hH
 by_cases h0:min m n=0
 ·rw[if_pos h0]
  have hzx:zs=xs:=by
   rw[←hz]
   have:ys.take (min m n)= []:=by rw[h0];rfl
   rw[this];rfl
  have hset:H.set i (.blk b T' room zs)=H:=by
   rw[hzx]
   obtain⟨hil,he⟩:=List.getElem?_eq_some_iff.1 hi
   rw[←he];exact List.set_getElem_self hil
  refine next _ rfl R _ W (by rw[hset];exact hs') ?_
  cases d with
  |none=>exact ha.none _
  |some q=>exact ha.put (hN q rfl) (.val _)
 ·rw [if_neg h0]
  have hm:Mods (fun c=>(HE.blk b T' room xs).foot c) W (W.setRow b (cs.toList.take off++vs++cs.toList.drop (off+min m n)).toArray):=Mods.setRow (S:=fun c=>(HE.blk b T' room xs).foot c) (Mods.refl _ _) (fun _=>rfl) _
  have hR: ∀c,R c→(W.setRow b (cs.toList.take off++vs++cs.toList.drop (off+min m n)).toArray).heap[c]? =W.heap[c]? :=fun c hc=>hm.block c (hs'.rlt c hc) fun hh=>(hs'.own _ hmem c hh).2 hc
  have hok:(HE.blk b T' room zs).ok R (W.setRow b (cs.toList.take off++vs++cs.toList.drop (off+min m n)).toArray):=by
   refine⟨_,_,setRow_heap W b cs _ T' _ hb,?_,rfl,?_⟩
   ·rw[List.size_toArray,cH,cH,List.length_take,List.length_drop,Array.length_toList,hvl];omega
   ·rw [←hz,c0p _ _ _ (by rw[hylen];omega),hylen]
    have e:(cs.toList.take off++vs++cs.toList.drop (off+min m n)).take (xs.take off++ys.take (min m n)++xs.drop (off+min m n)).length=us.take off++vs++us.drop (off+min m n):=by
     have hul:us.length=xs.length:=hr.1
     generalize hzz:ys.take (min m n)=zz at*
     generalize min m n=k at*
     apply List.ext_getElem?
     intro q
     subst ht
     simp only[List.getElem?_take,List.getElem?_append,cH,List.length_take,List.length_drop,hvl,hylen,Array.length_toList,List.getElem?_drop]
     by_cases q1:q<off
     ·simp[q1,show q<xs.length by omega,show q<min off xs.length+k+(xs.length-(off+k)) by omega,show q<min off cs.size+k by omega,show q<min off cs.size by omega,show q<min off (min xs.length cs.size)+k by omega,show q<min off (min xs.length cs.size) by omega]
     ·by_cases q2:q<off+k
      ·simp[show min off xs.length=off by omega,show min off cs.size=off by omega,show min xs.length cs.size=xs.length by omega,q1,q2,show q<off+k+(xs.length-(off+k)) by omega]
      ·by_cases q3:q<xs.length
       ·simp[show min off xs.length=off by omega,show min off cs.size=off by omega,show min xs.length cs.size=xs.length by omega,q1,q2,show q<off+k+(xs.length-(off+k)) by omega,show off+k+(q-(off+k))<xs.length by omega]
       ·simp[show min off xs.length=off by omega,show min off cs.size=off by omega,show min xs.length cs.size=xs.length by omega,q1,q2,show ¬q<off+k+(xs.length-(off+k)) by omega,show ¬off+k+(q-(off+k))<xs.length by omega]
    show RelL R _ _ (List.take _ (cs.toList.take off++vs++cs.toList.drop (off+min m n)))
    rw[e]
    exact(((hr.take off).app hvr).app (hr.drop (off+min m n))).mono (fun _ h=>h) hR
  have hs2:=hs'.setEntry (e':= .blk b T' room zs) hi hm (fun c hc=> .inl hc) hok
  refine next _ rfl R _ _ hs2 ?_
  cases d with
  |none=>exact(ha.keep hR).none _
  |some q=>exact(ha.keep hR).put (hN q rfl) (.val _)
def Plain (v:AV):Prop:=(∃c,v= .val c)∨ ∃xs,v= .agg xs∧ ∀x∈xs,∃c,x= .val c
theorem Plain.val {c:Value}:Plain (.val c):= .inl ⟨c,rfl⟩
theorem Plain.rel {v:AV}(h:Plain v){R R':Nat→Prop}{W W':World}{u:Value}(hv:RelV R W v u):RelV R' W' v u:=by
 rcases h with⟨c,rfl⟩|⟨xs,rfl,hx⟩
 ·rw[hv.val_inv];exact .val _
 ·cases hv with
  |agg _ cs hs hr=>
   refine .agg _ cs hs fun j hj=> ?_
   obtain⟨c,hc⟩:=hx xs[j] (List.getElem_mem hj)
   have:=hr j hj
   rw[hc]at this⊢
   rw[this.val_inv];exact .val _
inductive LendB (b:Nat) (ys:List AV):List AV→List AV→Prop
 |nil:LendB b ys [] []
 |same {a:AV} {r r':List AV}:LendB b ys r r'→LendB b ys (a::r) (a::r')
 |lend {j:Nat} {r r':List AV}:LendB b ys r r'→LendB b ys (.val (.pointer (some ⟨b,j,none⟩))::r) (.rp ys j::r')
theorem u0e {R:Nat→Prop}{W:World}{b T room j:Nat}{xs:List AV}(h:HE.ok R W (.blk b T room xs)):RelV (fun c=>R c∨c=b) W (.rp xs j) (.pointer (some ⟨b,j,none⟩)):=by
 have:=RelV.rp (R:=fun c=>R c∨c=b) (W:=W) xs j b 0 (fun q=>(W.cell? ⟨b,0+q,none⟩).getD undef) (.inr rfl) (fun q hq=>by
  obtain⟨u,hu,_⟩:=e0c h (j:=q) (v:=xs[q]) (by simp[hq])
  rw[Nat.zero_add,hu];rfl) (fun q hq=>by
  obtain⟨u,hu,hr⟩:=e0c h (j:=q) (v:=xs[q]) (by simp[hq])
  rw[Nat.zero_add,hu]
  exact hr.mono (fun _ h=> .inl h) (fun _ _=>rfl))
 simpa using this
theorem LendB.rel {R:Nat→Prop}{W:World}{b T room:Nat}{xs:List AV}(h:HE.ok R W (.blk b T room xs)){a a':List AV}(hl:LendB b xs a a'): ∀{us:List Value},RelL R W a us→RelL (fun c=>R c∨c=b) W a' us:=by
 induction hl with
 |nil=>intro us h;exact h.mono (fun _ h=> .inl h) (fun _ _=>rfl)
 |same _ ih=>
  intro us h
  obtain⟨u,r,rfl,h1,h2⟩:=h.uncons
  exact RelL.cons (h1.mono (fun _ h=> .inl h) (fun _ _=>rfl)) (ih h2)
 |lend _ ih=>
  intro us h'
  obtain⟨u,r,rfl,h1,h2⟩:=h'.uncons
  rw[h1.val_inv]
  exact RelL.cons (u0e h) (ih h2)
theorem O.callLB {f:FuncId}{xs:List Operand}{ats:Array TypeId}{args args':List AV}{v:AV}{b T room:Nat}{ys:List AV}{fn:Func}(ho:o.op= .call {callee:= .value (.func f),args:=xs.toArray,argTypes:=ats})(hfn:P.funcs[f]? =some fn)(hn:(fn.name== "runtime.NumGoroutine")=false)(hb:fn.body.isNone=false)
  (hx:evs E xs=some args) (hm:HE.blk b T room ys∈H) (h:Sp P f args' [] (Is v)) (hp:Plain v) (hl:LendB b ys args args'):OpW P N o E H (Is v):=fun R a W h0 h2 h3 ha=>by
 have hlt: ∀c,R c∨c=b→c<W.heap.size:=by
  rintro c (hb|rfl)
  ·exact h0 c hb
  ·exact HE.ok_lt (h2 _ hm) rfl
 unfold Oper.wp
 rw[b0V ho hfn hn hb,List.map_toArray]
 have hc:=h W _ (xs.map a.eval) hlt (fun e he=>by cases he) .nil (hl.rel (h2 _ hm) (ha.evs hx))
 refine Calls.mono hc ?_
 rintro e W' ⟨u,r,H',R',rfl,⟨rfl,rfl⟩,hs,hv⟩
 have p:=d0V hs hv hlt
 exact⟨u,r,[],R,rfl,⟨rfl,rfl⟩,p.ext,fun _ h=>h,fun _ h=> .inl h,hp.rel hv,fun _ he=>(by cases he),.nil⟩
end
theorem q0U {a b:Int}(h:0≤a):a.tmod b=a%b:=Int.tmod_eq_emod_of_nonneg h
theorem vp {a b:Int}(h:0≤a:=by omega):a.tmod b=a%b:=q0U h
theorem u0U {a b:Int}(h:0≤a∧a≤9223372036854775807)(hb:0<b):IntKind.i64.wrap (a.tdiv b)=a/b:=by
 rw[Int.tdiv_eq_ediv_of_nonneg h.1]
 have h1:0≤a/b:=Int.ediv_nonneg h.1 (by omega)
 have h2:a/b≤a:=Int.ediv_le_self b h.1
 exact e0h ⟨by omega,by omega⟩
theorem vI {a b:Int}(h:0≤a∧a≤9223372036854775807:=by exact⟨by omega,by omega⟩)(hb:0<b:=by omega):IntKind.i64.wrap (a.tdiv b)=a/b:=u0U h hb
def fnB (n:Nat)(f:Nat→UInt8):List UInt8:=(List.range n).map f
def arB (n:Nat)(f:Nat→UInt8):List AV:=a0a (fnB n f)
theorem a0G (n:Nat)(f:Nat→UInt8):(fnB n f).length=n:=by simp[fnB]
theorem a0b (n:Nat)(f:Nat→UInt8):(arB n f).length=n:=by simp[arB,a0a,fnB]
theorem c0K (n:Nat)(f:Nat→UInt8):arB n f=(List.range n).map fun q=>AV.val (.int .u8 ((f q).toNat:Int)):=by simp[arB,a0a,fnB,Function.comp_def]
theorem a0o {n:Nat}{f:Nat→UInt8}{k:Nat}(h:k<n){j:Nat}(hj:j=k):(arB n f)[j]? =some (.val (.int .u8 ((f k).toNat:Int))):=by subst hj;rw[c0K];simp[h]
theorem b0W {n:Nat}{f g:Nat→UInt8}(h: ∀q,q<n→f q=g q):fnB n f=fnB n g:=List.map_congr_left fun q hq=>h q (List.mem_range.1 hq)
theorem a0c {n:Nat}{f g:Nat→UInt8}(h: ∀q,q<n→f q=g q):arB n f=arB n g:=congrArg a0a (b0W h)
theorem t0Q {n:Nat}{f:Nat→UInt8}{j k:Nat}(h:j+k≤n):((fnB n f).drop j).take k=fnB k fun q=>f (j+q):=by
 apply List.ext_getElem?
 intro q
 by_cases hq:q<k
 ·simp[fnB,hq,List.getElem?_take,show j+q<n by omega]
 ·simp[fnB,hq,List.getElem?_take]
theorem h0a {n:Nat}{f:Nat→UInt8}{j k:Nat}(h:j+k≤n):((arB n f).drop j).take k=arB k fun q=>f (j+q):=by
 rw[arB,a0a,←List.map_drop,←List.map_take,t0Q h];rfl
theorem c0H (n:Nat)(f:Nat→UInt8):(arB n f).all AV.one=true:=by
 rw[List.all_eq_true,c0K]
 intro x hx
 obtain⟨q,_,rfl⟩:=List.mem_map.1 hx
 rfl
theorem n0b (n:Nat)(f:Nat→UInt8):Plain (.agg (arB n f)):= .inr ⟨_,rfl,fun x hx=>by
 rw[c0K]at hx
 obtain⟨q,_,rfl⟩:=List.mem_map.1 hx
 exact⟨_,rfl⟩⟩
theorem a0M {n:Nat}{f:Nat→UInt8}{k:Nat}(h:k<n)(v:UInt8){j:Nat}(hj:j=k):a0d (arB n f) j [.val (.int .u8 (v.toNat:Int))]=arB n (fun q=>if q=k then v else f q):=by
 subst hj
 show(arB n f).set j _=_
 apply List.ext_getElem?
 intro q
 rw[List.getElem?_set,c0K,c0K]
 by_cases hq:q<n
 ·by_cases e:j=q
  ·subst e;simp[h]
  ·simp[hq,e,show ¬q=j from fun e'=>e e'.symm]
 ·by_cases e:j=q
  ·subst e;omega
  ·simp[hq,e]
theorem d0p {n:Nat}{f g:Nat→UInt8}{j k:Nat}(h:j+k≤n):a0d (arB n f) j (arB k g)=arB n (fun q=>if j≤q∧q<j+k then g (q-j)else f q):=by
 rw[c0p _ _ _ (by rw[a0b,a0b];omega),a0b]
 apply List.ext_getElem?
 intro q
 simp only[List.getElem?_append,cH,List.length_take,a0b,List.getElem?_take,List.getElem?_drop]
 rw[c0K,c0K,c0K]
 by_cases q1:q<j
 ·simp[q1,show q<n by omega,show q<min j n+k by omega,show q<min j n by omega,show ¬j≤q by omega]
 ·by_cases q2:q<j+k
  ·simp[q1,q2,show min j n=j by omega,show j≤q by omega,show q-j<k by omega,show q<n by omega]
  ·by_cases q3:q<n
   ·simp[q1,q2,q3,show min j n=j by omega,show j+k+(q-(j+k))=q by omega]
   ·simp[q1,q2,q3,show min j n=j by omega,show n≤j+k+(q-(j+k)) by omega]
theorem f0u {xs cs:List AV}(h:xs.length=cs.length):a0d xs 0 cs=cs:=by
 rw[c0p _ _ _ (by omega)]
 simp[h]
theorem b0t {xs:List AV}{n:Nat}{f:Nat→UInt8}(h:xs.length=n):a0d xs 0 (arB n f)=arB n f:=f0u (by rw[h,a0b])
theorem b0E (n:Nat)(f:Nat→UInt8):roB (fnB n f)= .ro false n (arB n f):=by unfold roB;rw[a0G];rfl
end Go.Proofs.YtojomcdjcpmnkaaGreat.A
namespace Go.Proofs.YtojomcdjcpmnkaaGreat.By
open Go.RowKit L A
def beB:Nat→Nat→List UInt8
 |0,_=> []
 |k+1,n=>beB k (n/256)++[UInt8.ofNat n]
def l0G (m n:Nat):List UInt8:=
 if n<24 then [UInt8.ofNat (32*m+n)]else if n<256 then UInt8.ofNat (32*m+24)::beB 1 n else if n<65536 then UInt8.ofNat (32*m+25)::beB 2 n
 else if n<4294967296 then UInt8.ofNat (32*m+26)::beB 4 n else UInt8.ofNat (32*m+27)::beB 8 n
def c0o (b:List UInt8):List UInt8:=l0G 2 b.length++b
def k0d (b:List UInt8):List UInt8:=l0G 3 b.length++b
def e0M (n:Nat):List UInt8:=l0G 0 n
def g0o (l:List (List UInt8)):List UInt8:=l0G 4 l.length++l.flatten
def e0y (id ctx:List UInt8)(has:Bool)(kind:List UInt8)(n:Nat):List UInt8:=g0o [c0o id,if has then c0o ctx else [0xf6],e0M 10,k0d kind,e0M n]
def n0w:List UInt8:= [75,101,121]
def ivT:List UInt8:= [73,86]
def h0S:List UInt8:= [69,110,99,114,121,112,116,48]
def s0u (kid pb:List UInt8):List UInt8:=g0o [k0d h0S,c0o [],c0o (g0o [e0M 1,g0o [e0M 10],c0o kid,c0o pb,c0o []])]
def nF (c id:List UInt8)(piv:Int)(i j q:Nat):UInt8:=
 ((c.getD q 0^^^ (if q=0 then u8 (id.length:Int)else 0))^^^ (if 8-id.length≤q∧q<8-id.length+i then id.getD (q-(8-id.length)) 0 else 0))^^^ (if 13-j≤q∧q<13 then u8 (piv/2^ (8*(12-q)))else 0)
theorem t0B {c id:List UInt8}{piv:Int}{i:Nat}(hl:id.length≤7)(hi:i<id.length)(q:Nat):
  (if q=8-id.length+i then nF c id piv i 0 (8-id.length+i)^^^id.getD i 0 else nF c id piv i 0 q)=nF c id piv (i+1) 0 q:=by
 have h13: ∀p:Nat,¬(13-0≤p∧p<13):=fun p=>by omega
 by_cases h:q=8-id.length+i
 ·subst h
  rw[if_pos rfl]
  unfold nF
  rw[if_neg (h13 _),if_neg (show ¬(8-id.length≤8-id.length+i∧8-id.length+i<8-id.length+i) by omega),if_pos (show 8-id.length≤8-id.length+i∧8-id.length+i<8-id.length+(i+1) by omega),
   show 8-id.length+i-(8-id.length)=i by omega]
  simp
 rw[if_neg h]
 unfold nF
 rw[if_neg (h13 _)]
 by_cases h2:8-id.length≤q∧q<8-id.length+i
 ·rw[if_pos h2,if_pos (show 8-id.length≤q∧q<8-id.length+(i+1) by omega)]
 rw[if_neg h2,if_neg (show ¬(8-id.length≤q∧q<8-id.length+(i+1)) by omega)]
theorem q0l {c id:List UInt8}{piv:Int}{i j:Nat}(hj:j<5)(q:Nat):
  (if q=12-j then nF c id piv i j (12-j)^^^u8 (piv/2^ (8*j))else nF c id piv i j q)=nF c id piv i (j+1) q:=by
 by_cases h:q=12-j
 ·subst h
  rw[if_pos rfl]
  unfold nF
  rw[if_neg (show ¬(13-j≤12-j∧12-j<13) by omega),if_pos (show 13-(j+1)≤12-j∧12-j<13 by omega),show 12-(12-j)=j by omega]
  simp
 rw[if_neg h]
 unfold nF
 by_cases h2:13-j≤q∧q<13
 ·rw[if_pos h2,if_pos (show 13-(j+1)≤q∧q<13 by omega)]
 rw[if_neg h2,if_neg (show ¬(13-(j+1)≤q∧q<13) by omega)]
def k0G (c id:List UInt8)(piv:Int):List UInt8:=fnB 13 (nF c id piv id.length 5)
def b0z (c id:List UInt8)(piv:Int):List UInt8×Int:=
 if c.length≠13∨7<id.length then([],1)else if piv<0∨1099511627775<piv then([],8)else(k0G c id piv,0)
end Go.Proofs.YtojomcdjcpmnkaaGreat.By
namespace Go.Proofs.YtojomcdjcpmnkaaGreat.By
open Go.RowKit L A Dk
attribute [local irreducible] AW AQ AO
def Gen (b:Nat)(l:List Int)(Φ:AV→Prop):AV→List HE→Prop:=fun r H'=>Φ r∧ ∃k,k≤l.length∧H'= [f0Z b l k]
def v0u (n:Int)(r:AV):Prop:= ∃z:Int,0≤z∧z<n∧r= .val (.int .i64 z)
def o0q (n:Nat)(r:AV):Prop:= ∃x:List UInt8,x.length≤n∧r=roB x
def u0l (Φ:AV→Prop):AV→List HE→Prop:=fun r H'=>Φ r∧H'= []
theorem b0i (b:Nat)(l:List Int)(k:Nat)(n:Int)(hl:l.length≤maxLen)(hk:k≤l.length)(hn1:0<n)(hn2:n≤4611686018427387904):
  Sp Tryz.prog 33 [ptr b,.val (.int .i64 n)] [f0Z b l k] (Gen b l (v0u n)):=
 (r0T b l k n hl hk hn1 hn2).mono fun r H' ⟨h1,h2⟩=>⟨⟨_,(q0i l k hn1).1,(q0i l k hn1).2,h1⟩,_,s0s hk,h2⟩
theorem g0d (b:Nat)(l:List Int)(k:Nat)(n:Nat)(hl:l.length≤maxLen)(hk:k≤l.length)(hn:n≤1000000):
  Sp Tryz.prog 24 [ptr b,.val (.int .i64 (n:Int))] [f0Z b l k] (Gen b l (o0q n)):=by
 refine yN Tryz.func24 _ Tryz.ntmps24 (fun w0 R0=> ?_)
 refine zD (zr ?_)
 refine zc (zI (zo (zD (zr ?_))))
 refine zc (zI (zo (zD (zD (zr ?_)))))
 refine zb ?_
 refine zb ?_
 refine zA ?_
 refine AO.callMG 0 rfl rfl Tryz.func33 rfl rfl rfl rfl rfl rfl (b0i _ l _ _ hl (by assumption) (by omega) (by omega)) ?_
 rintro _ _ ⟨⟨z,hz0,hz1,rfl⟩,kd,hkd,rfl⟩
 dsimp only[cA,cN,List.eraseIdx]
 refine zc (zI (zo (xj ?_)))
 obtain⟨c,rfl⟩: ∃c:Nat,z=(c:Int):=⟨z.toNat,by omega⟩
 refine AW.g ?_
 refine G.nilRow 5 1 ?_
 refine AW.u ?_
 refine AW.loopK [(0,_)] (fun nn E H=> ∃(c':Nat) (out:List UInt8) (V:Value) (kk:Nat),(out.length+c'≤n)∧(V.oneCell'=true)∧(kk≤l.length)∧c'=nn∧E= [(5,.val V),(6,.val (.int .i64 (c':Int)))]∧H= [.row V 5 1 out.length (a0a out),f0Z b l kk]) _ (⟨c,[],.slice none 0 0,kd,by simp<;>omega,rfl,hkd,rfl,rfl,rfl⟩) (by repeat(first|exact a0j|refine a0i rfl ?_)) (by repeat(first|exact a0j|refine a0i rfl ?_)) (by repeat(first|exact a0A|refine a0v 0 rfl ?_)) ?_
 rintro nn E H ⟨c',out,V,kk,h1,hV,h3,rfl,rfl,rfl⟩
 dsimp only[cA,cN]
 refine zD (zD (zr ?_))
 refine zb ?_
 refine yS (zI (zo ?_))
 refine yk (fun h=> ?_) (fun h=> ?_)<;>(try simp only[vX]at h)
 ·obtain⟨j,rfl⟩: ∃j,c'=j+1:=⟨c'-1,by omega⟩
  refine yX (zo (zD (xj (zr ?_))))
  refine zb ?_
  refine zb ?_
  refine AO.callMG 1 rfl rfl Tryz.func33 rfl rfl rfl rfl rfl rfl (b0i _ l _ _ hl (by assumption) (by omega) (by omega)) ?_
  rintro _ _ ⟨⟨z,hz0,hz1,rfl⟩,kd,hkd,rfl⟩
  dsimp only[cA,cN,List.eraseIdx]
  refine xa ?_
  refine zQ ?_
  intro B
  refine AO.g ?_
  refine yc 0 19 ?_
  refine wd 19 ?_
  refine AO.u ?_
  dsimp only[List.eraseIdx]
  refine zx 1 ?_
  intro V hV
  refine zc (zI (xz (zo (zr ?_))))
  refine zb ?_
  refine yK ?_
  refine zc (zI ?_)
  rw[show((j+1:Nat):Int)-1=(j:Int) by omega]
  refine AQ.loopKN _ _ _ (by omega) (⟨j,out++[u8 z],V,kd,by simp;omega,hV,hkd,rfl,rfl,by rw[a0O,cH]<;>rfl⟩) (by repeat(first|exact a0j|refine a0i rfl ?_)) (by repeat(first|exact a0j|refine a0i rfl ?_)) (by repeat(first|exact a0A|refine a0v 0 rfl ?_|refine a0v 1 rfl ?_))
 refine wb ?_
 refine xY ?_
 refine x3 ?_
 refine xx (zo (zD (zr ?_)))
 refine zb ?_
 refine zc (zI (zo (xc ?_)))
 refine AQ.g ?_
 refine yH 0 [4] ?_
 refine AQ.u ?_
 dsimp only[List.map,List.eraseIdx,cA,cN]
 refine vu rfl rfl ⟨_,by repeat(first|exact List.Sublist.slnil|refine List.Sublist.cons_cons _ ?_),List.Perm.refl _⟩ (⟨⟨out,by omega,b0l rfl rfl⟩,_,h3,rfl⟩)
theorem h0X (b:List UInt8)(at' by':Int)(hb:b.length≤4294967296)(hw: -9223372036854775808≤by'∧by'≤9223372036854775807):
  Sp Tryz.prog 39 [roB b,.val (.int .i64 at'),.val (.int .i64 by')] [] (u0l (o0q (b.length+1))):=by
 refine yN Tryz.func39 _ Tryz.ntmps39 (fun w0 R0=> ?_)
 refine zD (zr ?_)
 refine zc (zI (zo (zD (zr ?_))))
 refine zb ?_
 refine yD ?_
 intro V hV
 refine zc (zI (zo (zD (zD (zr ?_)))))
 refine zb ?_
 refine wn ?_
 refine z9 (zI (zo ?_))
 refine yk (fun h=> ?_) (fun h=> ?_)<;>(try simp only[vX]at h)
 ·refine zD (zr ?_)
  refine zb ?_
  refine xa ?_
  refine zQ ?_
  intro B
  refine zc (zI (zo (xc (xr ?_))))
  refine AQ.g ?_
  refine yc 0 6 ?_
  refine AQ.u ?_
  refine AQ.g ?_
  refine wd 6 ?_
  refine AQ.u ?_
  refine vu rfl rfl nS (⟨⟨[u8 by'],by simp,rfl⟩,rfl⟩)
 have hlen:0<b.length:=by omega
 have q1:=Int.emod_nonneg at' (show(b.length:Int)≠0 by omega)
 have q2:=Int.emod_lt_of_pos at' (show(0:Int)<b.length by omega)
 have q3:by'.tdiv 256=by'.tdiv 256:=rfl
 refine yX (zo (zD (zr ?_)))
 refine zb ?_
 refine zb ?_
 refine wn ?_
 refine vT (xH rfl Tryz.func82 rfl rfl rfl (Dk.mod_fn _ _ (by omega) (by omega))) ?_
 refine zc (zI (zo (zD (zD (zr ?_)))))
 refine zb ?_
 refine vT (O.quo rfl rfl rfl (by omega) (by rfl)) ?_
 refine vT (xH rfl Tryz.func82 rfl rfl rfl (Dk.mod_fn _ _ (by omega) (by omega))) (zI (zo (xj (zD (zr ?_)))))
 refine z9 ?_
 refine zc (zI (zo ?_))
 obtain⟨k,hk⟩: ∃k:Nat,at'% (b.length:Int)=(k:Int):=⟨(at'% (b.length:Int)).toNat,by omega⟩
 rw[hk]at q1 q2⊢
 refine AW.g ?_
 refine G.openRow 0 rfl (by omega) (fun b' cap hc1 hc2 hxs hVe=> ?_)
 refine AW.u ?_
 subst hVe
 have hc3:=hc2
 unfold maxLen at hc3
 refine yk (fun h1=> ?_) (fun h1=> ?_)<;>(try simp only[vX]at h1)
 ·refine zr ?_
  refine zb ?_
  refine zb ?_
  refine zb ?_
  refine xa ?_
  refine vn ?_
  refine AO.store (i:=0) rfl rfl rfl rfl rfl rfl (by rfl) (by rfl) (by exact Nat.ble_eq_true_of_le (by simp;omega)) (by rfl) (by(dsimp only[List.set,List.append,cA,cN,AV.cells,a0d,List.take,List.drop,Nat.reduceAdd];done)) (zI (xz (zo (zD (zr ?_)))))
  refine zb ?_
  refine zc (zI (zo (xc ?_)))
  refine AQ.g ?_
  refine G.closeRow (b:=b') 0 rfl (by simp) rfl hc1 hc2 ?_
  refine AQ.u ?_
  refine AQ.g ?_
  refine yH 0 [6] ?_
  refine AQ.u ?_
  dsimp only[List.map,List.eraseIdx,cA,cN]
  refine vu rfl rfl nS (⟨⟨b.set k (u8 by'),by simp,b0l (by simp) (by simp[a0a,List.map_set])⟩,rfl⟩)
 refine zD (zr ?_)
 refine z9 ?_
 refine zc (zI (zo ?_))
 refine yk (fun h2=> ?_) (fun h2=> ?_)<;>(try simp only[vX]at h2)
 ·rcases Nat.lt_or_ge (k+1) b.length with h3|h3
  ·refine zD ?_
   refine yw 7 ?_
   simp only[cT,cZ,cD,cO]
   refine zG ?_
   refine zG ?_
   refine vS wx ?_
   refine zG ?_
   refine zG ?_
   refine xk ?_
   refine vS wx ?_
   refine wZ ?_
   simp only[a0f,cN,cA,cP]
   refine AO.appendCut (i:=0) rfl rfl rfl rfl (by rfl) (by rfl) rfl rfl rfl (by omega) (by exact SrcA.blk TyD.ax (by repeat(exact List.Mem.head _)) (by(dsimp only[List.set,List.append,cA,cN,AV.cells,a0d,List.take,List.drop,Nat.reduceAdd];done)) (by(simp;done))) (by(simp[AV.cells,AV.one, *];done)) (by(unfold maxLen;omega)) (by omega) ⟨by omega,by assumption⟩ (by(dsimp only[List.set,List.append,cA,cN,AV.cells,a0d,List.take,List.drop,Nat.reduceAdd];done)) (fun _=>by(dsimp only[List.set];done)) ?_
   intro V hV
   refine zc (zI (zo (xc ?_)))
   refine wi (xr ?_)
   refine AQ.g ?_
   refine yH 0 [6] ?_
   refine AQ.u ?_
   dsimp only[List.map,List.eraseIdx,cA,cN]
   refine AQ.ret1 rfl rfl nS (⟨⟨b.take k++b.drop (k+1),by simp<;>omega,b0l (by simp<;>omega) (by simp;rw[List.take_of_length_le (by simp)])⟩,rfl⟩)
  refine zD ?_
  refine yw 7 ?_
  simp only[cT,cZ,cD,cO]
  refine zG ?_
  refine zG ?_
  refine vS wx ?_
  refine zG ?_
  refine zG ?_
  refine xk ?_
  refine vS (O.sliceV0 rfl rfl rfl rfl ⟨by omega,by omega,by omega⟩ (by omega) (by assumption)) ?_
  refine wZ ?_
  simp only[a0f,cN,cA,cP]
  refine AO.appendCut (i:=0) rfl rfl rfl rfl (by rfl) (by rfl) rfl rfl rfl (by omega) (by exact SrcA.ro TyD.ax (by rfl) (lB rfl)) (by rfl) (by(unfold maxLen;omega)) (by omega) ⟨by omega,by assumption⟩ (by(dsimp only[List.set,List.append,cA,cN,AV.cells,a0d,List.take,List.drop,Nat.reduceAdd];done)) (fun _=>by(dsimp only[List.set];done)) ?_
  intro V hV
  refine zc (zI (zo (xc ?_)))
  refine wi (xr ?_)
  refine AQ.g ?_
  refine yH 0 [6] ?_
  refine AQ.u ?_
  dsimp only[List.map,List.eraseIdx,cA,cN]
  refine AQ.ret1 rfl rfl nS (⟨⟨b.take k,by simp<;>omega,b0l (by simp<;>omega) (by simp)⟩,rfl⟩)
 refine AW.g ?_
 refine G.closeRow (b:=b') 0 rfl (by simp) rfl hc1 hc2 ?_
 refine AW.u ?_
 refine AW.g ?_
 refine yf 0 [7] ?_
 refine AW.u ?_
 try dsimp only[List.map,List.eraseIdx,cA,cN]
 refine zD (zr ?_)
 refine z9 ?_
 refine zc (zI (zo ?_))
 refine yk (fun h4=> ?_) (fun h4=> ?_)<;>(try simp only[vX]at h4)
 ·refine zD ?_
  refine AW.regionM [(0,false),(1,false),(2,false),(4,false),(5,false),(6,false),(8,false),(9,false),(10,false),(3,true),(7,true),(11,true),(12,false)] (by kernel_rfl) (by kernel_rfl) (by exact a0h) ?_
  dsimp only[List.eraseIdx]
  refine yR ?_
  refine yR ?_
  refine vU rfl (O.sliceToB rfl rfl rfl (by rfl) (by omega)) ?_
  refine yR ?_
  refine vU rfl (O.conv rfl rfl c0Q) ?_
  refine xh ?_
  refine yR ?_
  refine yR ?_
  refine vU rfl (O.sliceFromB rfl rfl rfl (by rfl) (by omega)) ?_
  refine xX _ (fun w0 R0=> ?_)
  refine y0 ?_
  intro V hV
  refine AM.ok ?_
  dsimp only[a0z]
  refine xX _ (fun w0 R0=> ?_)
  refine AO.append' (i:=0) rfl rfl rfl rfl (by rfl) (by rfl) rfl rfl rfl (by exact SrcA.ro TyD.ax (by rfl) (lB rfl)) (by rfl) (by(unfold maxLen;simp only[List.length_take,List.length_drop,cH,cL,cE,List.length_set,Nat.zero_add];omega)) (by(simp only[List.length_take,List.length_drop,cH,cL,cE,List.length_set,Nat.zero_add];omega)) (by(dsimp only[List.set,List.append,cA,cN,AV.cells,a0d,List.take,List.drop,Nat.reduceAdd];done)) (fun _=>by(dsimp only[List.set];done)) ?_
  intro V hV
  refine AM.ok ?_
  dsimp only[a0z]
  refine xX _ (fun w0 R0=> ?_)
  refine AO.append' (i:=0) rfl rfl rfl rfl (by rfl) (by rfl) rfl rfl rfl (by exact SrcA.ro TyD.ax (by(simp;done)) (lB rfl)) (by(simp[AV.cells,AV.one, *];done)) (by(unfold maxLen;simp only[List.length_take,List.length_drop,cH,cL,cE,List.length_set,Nat.zero_add];omega)) (by(simp only[List.length_take,List.length_drop,cH,cL,cE,List.length_set,Nat.zero_add];omega)) (by(dsimp only[List.set,List.append,cA,cN,AV.cells,a0d,List.take,List.drop,Nat.reduceAdd];done)) (fun _=>by(dsimp only[List.set];done)) ?_
  intro V hV
  refine AM.ok ?_
  dsimp only[a0z]
  refine wM ?_
  refine vg ?_
  dsimp only[cA,cN]
  refine zo (xc ?_)
  refine wi (xr ?_)
  refine AQ.g ?_
  refine yf 0 [6] ?_
  refine AQ.u ?_
  try dsimp only[List.map,List.eraseIdx,cA,cN]
  refine AQ.ret1 rfl rfl nS (⟨⟨b.take k++[u8 by']++b.drop k,by simp<;>omega,b0l (by simp<;>omega) (by simp<;>rfl)⟩,rfl⟩)
 refine zD (zr ?_)
 refine zb ?_
 refine zb ?_
 refine vT (O.sliceToB rfl rfl rfl (by rfl) (by omega)) ?_
 refine zc (zI (zo (xc ?_)))
 refine wi (xr ?_)
 refine AQ.g ?_
 refine wd 6 ?_
 refine AQ.u ?_
 try dsimp only[List.map,List.eraseIdx,cA,cN]
 refine AQ.ret1 rfl rfl nS (⟨⟨b.take k,by simp<;>omega,b0l (by simp<;>omega) (by simp)⟩,rfl⟩)
end Go.Proofs.YtojomcdjcpmnkaaGreat.By
namespace Go.Proofs.YtojomcdjcpmnkaaGreat.By
open Go.RowKit L A
attribute [local irreducible] AW AQ AO
def i0N:List UInt8→List UInt8→Int
 |x::a,y::b=>if x=y then i0N a b else if x.toNat<y.toNat then -1 else 1
 | [],[]=>0
 | [],_=> -1
 |_,[]=>1
theorem i0M: ∀{a b:List UInt8},i0N a b=0↔a=b
 | [],[]=>by simp[i0N]
 | [],_::_=>by simp[i0N]
 |_::_,[]=>by simp[i0N]
 | x::a,y::b=>by
  unfold i0N
  split
  ·rename_i h
   rw[i0M,h];simp
  rename_i h
  simp only[List.cons.injEq,h,false_and,iff_false]
  split<;>omega
theorem n0V {a b:List UInt8}{k:Nat}(h1:k<a.length)(h2:k<b.length):
  i0N (a.drop k) (b.drop k)=if bt a k=bt b k then i0N (a.drop (k+1)) (b.drop (k+1))else if(bt a k).toNat<(bt b k).toNat then -1 else 1:=by
 rw[f0Y h1,f0Y h2,i0N]
theorem p0M {a b:List UInt8}{k:Nat}(h1:k≤a.length)(h2:k≤b.length)(h:k<a.length→b.length≤k):i0N (a.drop k) (b.drop k)=if a.length<b.length then -1 else if b.length<a.length then 1 else 0:=by
 rcases Nat.lt_or_eq_of_le h1 with h3|h3
 ·have h4:b.length=k:=by have:=h h3;omega
  have e:b.drop k= []:=List.drop_of_length_le (by omega)
  rw[f0Y h3,e,if_neg (by omega),if_pos (by omega)]
  simp[i0N]
 have e:a.drop k= []:=List.drop_of_length_le (by omega)
 rw[e]
 rcases Nat.lt_or_eq_of_le h2 with h5|h5
 ·rw[f0Y h5,if_pos (by omega)];simp[i0N]
 have e:b.drop k= []:=List.drop_of_length_le (by omega)
 rw[e,if_neg (by omega),if_neg (by omega)];simp[i0N]
theorem l0P (a b:List UInt8):Sp Tryz.prog 79 [roB a,roB b] [] (Is (.val (.int .i64 (i0N a b)))):=by
 refine yN Tryz.func79 _ Tryz.ntmps79 (fun w0 R0=> ?_)
 refine AW.g ?_
 refine G.lenRo (t:=0) rfl (fun hm1=> ?_)
 refine AW.u ?_
 refine AW.g ?_
 refine G.lenRo (t:=1) rfl (fun hm2=> ?_)
 refine AW.u ?_
 unfold maxLen at hm1 hm2
 refine zD (zr ?_)
 refine zc (zI (zo (zD (zD (zr ?_)))))
 refine zc (zI (zo (xj ?_)))
 refine vD [(0,_),(1,_)] (fun nn E H=> ∃(k:Nat),(k≤a.length)∧(k≤b.length)∧(i0N a b=i0N (a.drop k) (b.drop k))∧nn=a.length-k∧E= [(5,.val (.int .i64 (k:Int)))]∧H= []) _ (⟨0,by omega,by omega,rfl,rfl,rfl,rfl⟩) ?_
 rintro nn E H ⟨k,h1,h2,hc,rfl,rfl,rfl⟩
 dsimp only[cA,cN]
 refine zD (zD (zr ?_))
 refine zb ?_
 refine zb ?_
 refine zW ?_
 refine zP ?_
 refine zb ?_
 refine yt ?_
 refine yt ?_
 refine yb 12 ?_
 refine AO.opG rfl rfl rfl (fun hp=>wW 11 rfl (by exact hp) (wW 13 rfl (by exact hp) yu)) ?_
 refine zV (zI (zo ?_))
 refine yk (fun h=> ?_) (fun h=> ?_)<;>(try simp only[vX]at h)
 ·have h3:k<a.length:=by omega
  have h4:k<b.length:=by omega
  rw[n0V h3 h4]at hc
  refine yX (zo (zD (xj (zD ?_))))
  refine yw 9 ?_
  simp only[cT,cZ,cD,cO]
  refine zG ?_
  refine zG ?_
  refine xn ?_
  refine vS vx ?_
  refine zG ?_
  refine zG ?_
  refine xn ?_
  refine vS vx ?_
  refine vS xo ?_
  refine wZ ?_
  simp only[a0f,cN,cA,cP]
  refine zI (zo ?_)
  refine yk (fun h5=> ?_) (fun h5=> ?_)<;>(try simp only[vX]at h5)
  ·rw[if_neg (fun e=>h5 (by rw[e]))]at hc
   refine zD (zD ?_)
   refine yw 9 ?_
   simp only[cT,cZ,cD,cO]
   refine zG ?_
   refine zG ?_
   refine xn ?_
   refine vS vx ?_
   refine zG ?_
   refine zG ?_
   refine xn ?_
   refine vS vx ?_
   refine vS yu ?_
   refine wZ ?_
   simp only[a0f,cN,cA,cP]
   refine zI (zo ?_)
   refine yk (fun h6=> ?_) (fun h6=> ?_)<;>(try simp only[vX]at h6)
   ·rw[if_pos (by omega)]at hc
    refine zD (zr ?_)
    refine zc (zI (zo (xc (xr ?_))))
    refine wi (xr ?_)
    refine AQ.loopR ?_
    refine wi (xr ?_)
    refine vu rfl rfl nS (⟨congrArg (fun z=>AV.val (.int .i64 z)) hc.symm,rfl⟩)
   rw[if_neg (by omega)]at hc
   refine yX (zo (zD (zr ?_)))
   refine zc (zI (zo (xc ?_)))
   refine wi (xr ?_)
   refine AQ.loopR ?_
   refine wi (xr ?_)
   refine vu rfl rfl nS (⟨congrArg (fun z=>AV.val (.int .i64 z)) hc.symm,rfl⟩)
  rw[if_pos (u8_eq.1 h5)]at hc
  refine yX (xz (zo (zr ?_)))
  refine zb ?_
  refine zA ?_
  refine zc (zI ?_)
  refine vl _ _ _ (by omega) (⟨k+1,by omega,by omega,hc,rfl,rfl,rfl⟩)
 rw[p0M h1 h2 (fun _=>by omega)]at hc
 refine wb ?_
 refine xY ?_
 refine x3 ?_
 refine xx (zo (zD (xj (zD (zr ?_)))))
 refine zb ?_
 refine zW ?_
 refine zb ?_
 refine zW ?_
 refine zP ?_
 refine zc (zI (zo ?_))
 refine yk (fun h5=> ?_) (fun h5=> ?_)<;>(try simp only[vX]at h5)
 ·rw[if_pos (by omega)]at hc
  refine zD (zr ?_)
  refine zc (zI (zo (xc ?_)))
  refine wi (xr ?_)
  refine vu rfl rfl nS (⟨congrArg (fun z=>AV.val (.int .i64 z)) hc.symm,rfl⟩)
 rw[if_neg (by omega)]at hc
 refine zD (zr ?_)
 refine zb ?_
 refine zW ?_
 refine zb ?_
 refine zW ?_
 refine yS ?_
 refine zc (zI (zo ?_))
 refine yk (fun h6=> ?_) (fun h6=> ?_)<;>(try simp only[vX]at h6)
 ·rw[if_pos (by omega)]at hc
  refine zD (zr ?_)
  refine zc (zI (zo (xc ?_)))
  refine wi (xr ?_)
  refine vu rfl rfl nS (⟨congrArg (fun z=>AV.val (.int .i64 z)) hc.symm,rfl⟩)
 rw[if_neg (by omega)]at hc
 refine yX (xz (zo (zD (zr ?_))))
 refine zc (zI (zo (xc ?_)))
 refine vu rfl rfl nS (⟨congrArg (fun z=>AV.val (.int .i64 z)) hc.symm,rfl⟩)
theorem b0S (a b:List UInt8):Sp Tryz.prog 31 [roB a,roB b] [] (Is (.val (.bool (a==b)))):=by
 refine yN Tryz.func31 _ Tryz.ntmps31 (fun w0 R0=> ?_)
 refine zD (zr ?_)
 refine zc (zI (zo (zD (zr ?_))))
 refine zb ?_
 refine zb ?_
 refine vT (xH rfl Tryz.func79 rfl rfl rfl (l0P _ _)) ?_
 refine z9 ?_
 refine zb ?_
 refine yt ?_
 refine yb 10 ?_
 refine yt ?_
 refine yb 12 ?_
 refine AO.opG rfl rfl rfl (fun hp=>wW 11 rfl (by exact hp) (wW 13 rfl (by exact hp) yC)) ?_
 refine zV ?_
 refine zc (zI (zo (xc ?_)))
 have e:((i0N a b==0)&&((a.length:Int)==(b.length:Int)))=(a==b):=by
  rw[Bool.eq_iff_iff]
  simp only[Bool.and_eq_true,beq_iff_eq,i0M]
  constructor
  ·exact fun h=>h.1
  rintro rfl;exact⟨rfl,rfl⟩
 refine vu rfl rfl nS (⟨congrArg (fun z=>AV.val (.bool z)) e,rfl⟩)
theorem a0s (l:List UInt8)(hl:l.length≤140737488355328):Sp Tryz.prog 69 [roB l] [] (Is (roB l)):=by
 refine yN Tryz.func69 _ Tryz.ntmps69 (fun w0 R0=> ?_)
 refine zD (zr ?_)
 refine zc (zI (zo (zD (zr ?_))))
 refine zb ?_
 refine yD ?_
 intro V hV
 refine zc (zI (zo (xc ?_)))
 refine AQ.g ?_
 refine yH 0 [2] ?_
 refine AQ.u ?_
 dsimp only[List.map,List.eraseIdx,cA,cN]
 refine vu rfl rfl nS (⟨b0l (by simp) (by simp),rfl⟩)
def l0W (n:Nat)(out:List UInt8):List UInt8:=if h:n=0 then out else l0W (n/256) (u8 (n:Int)::out)
termination_by n
decreasing_by omega
def b0K (n:Int):List UInt8:=if n<0∨1099511627775<n then []else l0W (n.toNat/256) [u8 n]
theorem a0V (out:List UInt8):l0W 0 out=out:=by unfold l0W;simp
theorem a0T {n:Nat}(h:n≠0)(out:List UInt8):l0W n out=l0W (n/256) (u8 (n:Int)::out):=by rw[l0W,dif_neg h]
theorem k0Z: ∀(k n:Nat) (out:List UInt8),n<256^k→(l0W n out).length≤out.length+k
 |0,n,out,h=>by
  obtain rfl:n=0:=by simpa using h
  rw[a0V];simp
 |k+1,n,out,h=>by
  by_cases h0:n=0
  ·subst h0;rw[a0V];simp
  rw[a0T h0]
  have:=k0Z k (n/256) (u8 (n:Int)::out) (by rw[Nat.pow_succ]at h;omega)
  simp at this⊢;omega
theorem c0B (n:Int):(b0K n).length≤5:=by
 unfold b0K
 split
 ·simp
 have:=k0Z 4 (n.toNat/256) [u8 n] (by omega)
 simpa using this
def m0X (n:Int)(s:Nat)(out:List UInt8):List UInt8:=if 0<out.length∨(u8 (n/256^s)≠0)∨s=0 then out++[u8 (n/256^s)]else out
def rGo (n:Int):Nat→List UInt8
 |0=> []
 |k+1=>m0X n (4-k) (rGo n k)
theorem f0r (x:Int):u8 x=0↔x%256=0:=by
 constructor
 ·intro h
  have:=c0d x
  rw[h]at this
  simpa using this.symm
 intro h;unfold u8;rw[h];rfl
theorem r0u {n:Int}(h0:0≤n)(h1:n≤1099511627775):rGo n 5=b0K n:=by
 obtain⟨m,rfl⟩: ∃m:Nat,n=(m:Int):=⟨n.toNat,by omega⟩
 have nz: ∀x:Int,x%256≠0→ ¬u8 x=0:=fun x h e=>h ((f0r x).1 e)
 have yz: ∀x:Int,x%256=0→u8 x=0:=fun x h=>(f0r x).2 h
 have q:(m:Int)/256^0=(m:Int):=by simp
 have s1:((m/256:Nat):Int)=(m:Int)/256:=by omega
 have s2:((m/65536:Nat):Int)=(m:Int)/65536:=by omega
 have s3:((m/16777216:Nat):Int)=(m:Int)/16777216:=by omega
 have s4:((m/4294967296:Nat):Int)=(m:Int)/4294967296:=by omega
 unfold b0K
 rw[if_neg (by omega)]
 simp only[rGo,m0X,Nat.reduceSub,Int.reducePow,Int.toNat_natCast,q]
 by_cases a4:m/4294967296=0
 ·have e4:=yz ((m:Int)/4294967296) (by omega)
  by_cases a3:m/16777216=0
  ·have e3:=yz ((m:Int)/16777216) (by omega)
   by_cases a2:m/65536=0
   ·have e2:=yz ((m:Int)/65536) (by omega)
    by_cases a1:m/256=0
    ·have e1:=yz ((m:Int)/256) (by omega)
     rw[a1,a0V]
     simp[e4,e3,e2,e1]
    have e1:=nz ((m:Int)/256) (by omega)
    rw[a0T a1,show m/256/256=0 by omega,a0V,s1]
    simp[e4,e3,e2,e1]
   have e2:=nz ((m:Int)/65536) (by omega)
   rw[a0T (by omega),a0T (by omega),show m/256/256/256=0 by omega,a0V,show m/256/256=m/65536 by omega,s1,s2]
   simp[e4,e3,e2]
  have e3:=nz ((m:Int)/16777216) (by omega)
  rw[a0T (by omega),a0T (by omega),a0T (by omega),show m/256/256/256/256=0 by omega,a0V,show m/256/256/256=m/16777216 by omega,show m/256/256=m/65536 by omega,s1,s2,s3]
  simp[e4,e3]
 have e4:=nz ((m:Int)/4294967296) (by omega)
 rw[a0T (by omega),a0T (by omega),a0T (by omega),a0T (by omega),show m/256/256/256/256/256=0 by omega,a0V,show m/256/256/256/256=m/4294967296 by omega,show m/256/256/256=m/16777216 by omega,show m/256/256=m/65536 by omega,s1,s2,s3,s4]
 simp[e4]
theorem m0Y (n:Int): ∀k,(rGo n k).length≤k
 |0=>Nat.le_refl _
 |k+1=>by
  have:=m0Y n k
  unfold rGo m0X
  split
  ·simp;omega
  omega
end Go.Proofs.YtojomcdjcpmnkaaGreat.By
