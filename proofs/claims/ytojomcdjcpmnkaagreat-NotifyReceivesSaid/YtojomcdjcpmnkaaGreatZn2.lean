/-
  Texts laid together (part 2): what the statement's walk and plain law need. No condition.
-/
import Derived.Laws.BytesArg
import Derived.Lib.SliceRun
import Derived.Laws.StructEq
import Derived.Laws.MakeOwn
import Derived.Laws.IdiomStrings
import Derived.Lib.EndianBits
import Derived.Test.YtojomcdjcpmnkaaGreatZn1
set_option linter.unusedVariables false
set_option linter.unusedSimpArgs false
set_option maxRecDepth 20000
set_option maxHeartbeats 4000000
namespace Go.Proofs.YtojomcdjcpmnkaaGreat.A
open Go.RowKit L
def a0a (l:List UInt8):List AV:=l.map fun b=> .val (.int .u8 (b.toNat:Int))
def roB (l:List UInt8):AV:= .ro false l.length (a0a l)
def d0k (k:IntKind)(l:List Int):List AV:=l.map fun z=> .val (.int k z)
def roI (l:List Int):AV:= .ro false l.length (d0k .i64 l)
@[simp] theorem c0z (l:List UInt8):(a0a l).length=l.length:=by simp[a0a]
@[simp] theorem q0C (k:IntKind) (l:List Int):(d0k k l).length=l.length:=by simp[d0k]
@[simp] theorem g0N (l:List UInt8):(a0a l).all AV.one=true:=by simp[a0a,AV.one,Value.oneCell']
@[simp] theorem t0N (k:IntKind) (l:List Int):(d0k k l).all AV.one=true:=by simp[d0k,AV.one,Value.oneCell']
@[simp] theorem a0O (l m:List UInt8):a0a (l++m)=a0a l++a0a m:=by simp[a0a]
@[simp] theorem t0O (k:IntKind) (l m:List Int):d0k k (l++m)=d0k k l++d0k k m:=by simp[d0k]
def e0G (l:List UInt8):ByteArray:=⟨l.toArray⟩
theorem a0L (l:List UInt8):(e0G l).toList=l:=by rw[ByteArray.toList_eq];simp[e0G]
theorem vU:(∀{p:Prop} [Decidable p],(decide p=true)=p)∧(∀{p:Prop} [Decidable p],decide p=false↔ ¬p)∧(∀{α:Type} [BEq α] [LawfulBEq α] {a b:α},(a==b)=true↔a=b)∧(∀{α:Type} [BEq α] [LawfulBEq α] {a b:α},(a==b)=false↔a≠b)∧(∀{α:Type} [BEq α] [LawfulBEq α] {a b:α},(a !=b)=true↔a≠b)∧(∀{α:Type} [BEq α] [LawfulBEq α] {a b:α},(a !=b)=false↔a=b)∧(∀b:Bool,((!b)=true)=(b=false))∧(∀b:Bool,((!b)=false)=(b=true))∧(∀b:Bool,(¬(b=true))=(b=false))∧(∀b:Bool,(¬(b=false))=(b=true))∧(∀{α:Type} (a b:α),(a≠b)= ¬(a=b))∧(∀{a b:Int},¬(a<b)↔b≤a)∧(∀{a b:Int},¬(a≤b)↔b<a)∧(∀a b:Bool,((a&&b)=true)=(a=true∧b=true))∧(∀a b:Bool,((a||b)=true)=(a=true∨b=true))∧(∀{a b:Bool},(a||b)=false↔a=false∧b=false)∧(∀{a b:Bool},(a&&b)=false↔(a=true→b=false))∧(∀l:List UInt8,(e0G l).toList=l)∧(∀{p:Prop} [Decidable p],¬¬p↔p):=⟨@decide_eq_true_eq,@decide_eq_false_iff_not,@beq_iff_eq,@beq_eq_false_iff_ne,@bne_iff_ne,@bne_eq_false_iff_eq,Bool.not_eq_true',Bool.not_eq_false',Bool.not_eq_true,Bool.not_eq_false,@ne_eq,@Int.not_lt,@Int.not_le,Bool.and_eq_true,Bool.or_eq_true,@Bool.or_eq_false_iff,@Bool.and_eq_false_imp,a0L,@Decidable.not_not⟩
section
variable {Γ:Cx}{P:Program}{Q:Exit→Act→World→Prop}{E:Env}{H:List HE}{N:Nat}{o:Oper}{ops:Array Oper}{rest:List Oper}
theorem m0z {R:Nat→Prop}{W:World}{l:List UInt8}{us:Nat→Value}(h: ∀j (h:j<(a0a l).length),RelV R W (a0a l)[j] (us j)): ∀j (hj:j<l.length),us j= .int .u8 (l[j].toNat:Int):=fun j hj=>by
 have:=h j (by simpa using hj)
 simp only[a0a,List.getElem_map]at this
 exact this.val_inv
theorem j0f (l:List UInt8):(l.map fun b=>((b.toNat:Nat):Int)).foldl (fun r n=>r.push (UInt8.ofNat n.toNat)) ByteArray.empty=e0G l:=by
 have key: ∀(l:List UInt8) (r:ByteArray),((l.map fun b=>((b.toNat:Nat):Int)).foldl (fun r n=>r.push (UInt8.ofNat n.toNat)) r).data=r.data++l.toArray:=by
  intro l
  induction l with
  |nil=>intro r;simp
  |cons b l ih=>
   intro r
   rw[List.map_cons,List.foldl_cons,ih]
   simp[ByteArray.push]
 have:=key l ByteArray.empty
 cases h:(l.map fun b=>((b.toNat:Nat):Int)).foldl (fun r n=>r.push (UInt8.ofNat n.toNat)) ByteArray.empty with
 |mk d=>
  rw[h]at this
  simp at this
  simp[e0G,this]
theorem O.convS {S T U:Nat}{x:Operand}{full:Bool}{n:Nat}{xs:List AV}{l:List UInt8}[hS:TyD P S (.slice U)][hU:TyD P U (.int .u8)][hT:TyD P T .string](ho:o.op= .convert S T x)(hx:ev E x=some (.ro full n xs))(hl:AV.ro full n xs= .ro full l.length (a0a l)):
  OpW P N o E H (Is (.val (.string (e0G l)))):= .of_run fun R a W h1 h2 ha=>by
 have hv:=ha.ev hx
 rw[hl]at hv
 generalize hu:a.eval x=u at*
 refine⟨.string (e0G l),?_,.val _⟩
 generalize hn:l.length=n' at hv
 generalize hb:a0a l=ys at hv
 cases hv with
 | emp _ ad cap h3 h4=>
  have:l= []:=List.eq_nil_of_length_eq_zero hn
  subst this
  cases ad with
  |none=>simp[execOp,ho,hu,convert,run_underlying hS.ax,run_underlying hT.ax,run_underlying hU.ax,Conv.bytesToString,e0G];rfl
  |some ad=>
   simp only[execOp,ho,hu]
   rw[Sem.run_bind,run_convert_bytes_string W S T U _ 0 cap hS.ax hU.ax hT.ax,run_bytesToString W ad 0 cap [] (by simp[loadCells,loadCellsFrom])]
   simp[e0G];rfl
 | ro _ _ _ b off cap us hb' hc hr h3 h4 h5=>
  subst hb
  have hus:=m0z hr
  have hld:(loadCells ⟨b,off,none⟩ n').run P W= .ok ((l.map fun b=>((b.toNat:Nat):Int)).map (Value.int .u8)).toArray W:=by
   have:=run_loadCells_list (P:=P) W ⟨b,off,none⟩ ((l.map fun b=>((b.toNat:Nat):Int)).map (Value.int .u8)) (fun j v hj=>by
    obtain⟨h6,rfl⟩:=List.getElem?_eq_some_iff.1 hj
    simp at h6
    rw[a0H,hc j (by simpa using h6),hus j h6]
    simp)
   simpa[hn]using this
  simp only[execOp,ho,hu]
  rw[Sem.run_bind,run_convert_bytes_string W S T U _ n' cap hS.ax hU.ax hT.ax,run_bytesToString W _ n' cap _ hld,j0f]
  rfl
theorem vK {S T U:Nat}{x:Operand}{full:Bool}{n:Nat}{xs:List AV}{l:List UInt8}(ho:o.op= .convert S T x:=by exact rfl)(hS:TyD P S (.slice U):=by infer_instance)(hU:TyD P U (.int .u8):=by infer_instance)(hT:TyD P T .string:=by infer_instance)(hx:ev E x=some (.ro full n xs):=by exact rfl)(hl:AV.ro full n xs= .ro full l.length (a0a l):=by rfl):OpW P N o E H (Is (.val (.string (e0G l)))):=O.convS ho hx hl
def u0s (n:Nat)(pos:Bool):AV→List HE→Prop:=fun v Hn=> ∃c:Bool,v= .val (.bool c)∧Hn= []∧((c==pos)=true→n=0)
theorem O.eqlNil {T T' U:Nat}{x y:Operand}{full:Bool}{n:Nat}{xs:List AV}[hT:TyD P T (.slice U)](ho:o.op= .binOp .eql T x y T')(hx:ev E x=some (.ro full n xs))(hy:ev E y=some (.val (.slice none 0 0))):OpW P N o E H (u0s n true):=fun R a W h1 h2 h3 ha=>by
 have hv:=ha.ev hx
 generalize hu:a.eval x=u at*
 have hyv:=(ha.ev hy).val_inv
 have hg: ∀ad m c,(eqGuard .eql T x y (.slice ad m c) (.slice none 0 0)).run P W= .ok () W:=fun ad m c=>by unfold eqGuard;split<;>first|rfl|contradiction
 have key: ∀ad m c,(execOp a.eval o).run P W= .ok (.value (.bool (Option.isNone (α:=Addr) ad))) W∨u≠ .slice ad m c:=fun ad m c=>by
  by_cases hs:u= .slice ad m c
  ·subst hs
   refine .inl ?_
   simp only[execOp,ho,hu,hyv]
   rw[Sem.run_bind,Sem.run_bind,hg]
   show Result.andThen ((binOp .eql T (.slice ad m c) (.slice none 0 0)).run P W) _=_
   have:=_root_.Go.Lib.run_eql_slice_nil (P:=P) W T U ad m c 0 0 hT.ax
   rw[this];rfl
  ·exact .inr hs
 have fin: ∀ad m c,u= .slice ad m c→(ad=none→n=0)→o.wp P a W (fun A' W'=> ∃u v Hn R',A'=a.put o.dst u∧u0s n true v Hn∧Post1 R W v Hn u W' R') NoQ:=fun ad m c he h0=>by
  rcases key ad m c with hr|hne
  ·unfold Oper.wp
   rw[hr]
   refine⟨_,.val (.bool ad.isNone),[],R,rfl,⟨_,rfl,rfl,fun h=> ?_⟩,Post1.same h1 (.val _)⟩
   cases ad with
   |none=>exact h0 rfl
   |some _=>cases h
  ·exact absurd he hne
 cases hv with
 |emp _ ad cap h3 h4=>exact fin ad 0 cap rfl (fun _=>rfl)
 |ro _ _ _ b off cap us hb' hc hr h3 h4 h5=>exact fin _ _ _ rfl (fun h=>by cases h)
theorem O.buildSlice0 {T U k bs:Nat}{z:Value}[hs:TyS P T U k bs z](ho:o.op= .buildSlice T 0 #[]):OpW P N o E H (b0e U k 0 []):=fun R a W h0 h2 h3' ha=>by
 obtain⟨i,hi,hik,hib,hz⟩:=hs.el
 have hr:(execOp a.eval o).run P W= .ok (.value (.slice (some ⟨W.heap.size,0,none⟩) 0 0)) (W.alloc (.cells #[] U)):=by
  simp[execOp,ho,Instr.buildSlice,run_underlying hs.ty,sizeOf,typeInfo,hi,newRow,Instr.fill];congr 2;apply Array.ext';simp[Array.toList_range]
 unfold Oper.wp
 rw[hr]
 refine⟨_,.val _,_,R,rfl,⟨_,rfl,rfl,rfl⟩,Mods.alloc (Mods.refl _ _) _,fun _ h=>h,fun _ h=> .inl h,.val _,?_,by simp⟩
 intro e he
 obtain rfl:e=_:=by simpa using he
 refine⟨⟨[],⟨by simp,.inr ⟨W.heap.size,0,#[],rfl,Nat.zero_le _,heap_alloc_new W _,Nat.le_refl _,Nat.zero_le _,by simp,by simp⟩⟩,RelL.nil⟩,fun b hb=> ?_⟩
 have:some W.heap.size=some b:=hb
 cases this
 exact⟨Nat.le_refl _,fun h=>by have:=h0 _ h;omega⟩
theorem O.minI {T:Array Nat}{x y:Operand}{k:IntKind}{p q c:Int}(ho:o.op= .call {callee:= .builtin .min,args:= #[x,y],argTypes:=T})(hx:ev E x=some (.val (.int k p)))(hy:ev E y=some (.val (.int k q)))(hc:(if q<p then q else p)=c):
  OpW P N o E H (Is (.val (.int k c))):= .of_run fun R a W h1 h2 ha=>
 ⟨.int k c,by simp[execOp,ho,(ha.ev hx).val_inv,(ha.ev hy).val_inv,resolve,invoke,builtin,Builtin.min_,Builtin.min2,hc],.val _⟩
theorem O.maxI {T:Array Nat}{x y:Operand}{k:IntKind}{p q c:Int}(ho:o.op= .call {callee:= .builtin .max,args:= #[x,y],argTypes:=T})(hx:ev E x=some (.val (.int k p)))(hy:ev E y=some (.val (.int k q)))(hc:(if p<q then q else p)=c):
  OpW P N o E H (Is (.val (.int k c))):= .of_run fun R a W h1 h2 ha=>
 ⟨.int k c,by simp[execOp,ho,(ha.ev hx).val_inv,(ha.ev hy).val_inv,resolve,invoke,builtin,Builtin.max_,Builtin.max2,hc],.val _⟩
end
def c0A (E:Env):Option Operand→Nat→Option Int
 |none,d=>some d
 |some x,_=>match ev E x with
  |some (.val (.int _ z))=>some z
  |_=>none
section
variable {Γ:Cx}{P:Program}{Q:Exit→Act→World→Prop}{E:Env}{H:List HE}{N:Nat}{o:Oper}{ops:Array Oper}{rest:List Oper}
theorem d0U {R:Nat→Prop}{W:World}{a:Act}{x:Operand}{d:Nat}{z:Int}(ha:RelA N R W E a)(h:c0A E (some x) d=some z): ∃k,a.eval x= .int k z:=by
 unfold c0A at h
 simp only at h
 split at h
 ·rename_i k z' hx
  cases h
  exact⟨k,(ha.ev hx).val_inv⟩
 ·cases h
theorem c0C {R:Nat→Prop}{W:World}{a:Act}{low high:Option Operand}{n cap:Nat}{l h:Int}(ha:RelA N R W E a)(hl:c0A E low 0=some l)(hh:c0A E high n=some h)(h0:0≤l∧l≤h∧h≤n)(hc:n≤cap):
  (Instr.sliceBounds true n cap (low.map a.eval) (high.map a.eval) none).run P W= .ok (l.toNat,h.toNat,cap) W:=by
 obtain⟨h1,h2,h3⟩:=h0
 have hhc:h≤(cap:Int):=by omega
 cases high with
 | none=>
  obtain rfl:(n:Int)=h:=by simpa[c0A]using hh
  cases low with
  |none=>
   obtain rfl:(0:Int)=l:=by simpa[c0A]using hl
   simp[Instr.sliceBounds]
  |some x=>
   obtain⟨k,hk⟩:=d0U ha hl
   simp[Instr.sliceBounds,Instr.sliceBound,hk,asIntOf,h1,h2]
 | some y=>
  obtain⟨k',hk'⟩:=d0U ha hh
  have h4:0≤h:=by omega
  cases low with
  |none=>
   obtain rfl:(0:Int)=l:=by simpa[c0A]using hl
   simp[Instr.sliceBounds,Instr.sliceBound,hk',asIntOf,h4,hhc]
  |some x=>
   obtain⟨k,hk⟩:=d0U ha hl
   have h5:l≤max h 0:=by omega
   simp[Instr.sliceBounds,Instr.sliceBound,hk,hk',asIntOf,h1,h4,hhc]
   omega
theorem G.freezePtr {X:Act→World→Prop}(i t:Nat){b T room:Nat}{xs:List AV}(hi:H[i]? =some (.blk b T room xs))(ht:a0q E t=some (.val (.pointer (some ⟨b,0,none⟩))))(k:G Γ ((t,.rp xs 0)::E) (H.eraseIdx i) X):G Γ E H X:=
 G.freezeBlk i hi [(t,.rp xs 0)] (fun p hp=>by
  obtain rfl:p=(t,.rp xs 0):=by simpa using hp
  exact .inl ⟨0,ht,rfl⟩) k
theorem G.freezeSl {X:Act→World→Prop}(i t:Nat){b T room n cap:Nat}{xs:List AV}(hi:H[i]? =some (.blk b T room xs))(ht:a0q E t=some (.val (.slice (some ⟨b,0,none⟩) n cap)))(hc:n≤cap∧cap≤maxLen)(k:G Γ ((t,.ro (Nat.beq n cap) n xs)::E) (H.eraseIdx i) X):G Γ E H X:=
 G.freezeBlk i hi [(t,.ro (Nat.beq n cap) n xs)] (fun p hp=>by
  obtain rfl:p=(t,.ro (Nat.beq n cap) n xs):=by simpa using hp
  exact .inr ⟨n,cap,ht,rfl,hc.1,hc.2⟩) k
theorem yr {X:Act→World→Prop}{b T room n cap:Nat}{xs:List AV}(i:Nat)(t:Nat)(k:G Γ ((t,.ro (Nat.beq n cap) n xs)::E) (H.eraseIdx i) X)(hi:H[i]? =some (.blk b T room xs):=by exact rfl)(ht:a0q E t=some (.val (.slice (some ⟨b,0,none⟩) n cap)):=by exact rfl)(hc:n≤cap∧cap≤maxLen:=by exact⟨Nat.le_refl _,by unfold maxLen;omega⟩):G Γ E H X:=G.freezeSl i t hi ht hc k
theorem t0W {v:AV}: ∀t∈([]:List Nat),a0q E t=some v:=fun _ h=>by cases h
theorem q0D {t:Nat}{r:List Nat}{v:AV}(h:a0q E t=some v)(hr: ∀t∈r,a0q E t=some v): ∀s∈t::r,a0q E s=some v:=fun s hs=>by
 rcases List.mem_cons.1 hs with rfl|hs
 ·exact h
 ·exact hr s hs
theorem O.sliceR {T:Nat}{x:Operand}{low high:Option Operand}{full:Bool}{n:Nat}{xs ys:List AV}{l h:Int}{U sz bs m:Nat}{zz:Value}[hs:TyS P T U sz bs zz](ho:o.op= .slice T x low high none)(hx:ev E x=some (.ro full n xs))(hl:c0A E low 0=some l)(hh:c0A E high n=some h)(h0:0≤l∧l≤h∧h≤n)
  (hm:h.toNat-l.toNat=m) (hy:(xs.drop (l.toNat*sz)).take (m*sz)=ys) (hys:m=0→ys= []):OpW P N o E H (Is (.ro false m ys)):= .of_run fun R a W h1 h2 ha=>by
 obtain⟨i,hi,hi2, -⟩:=hs.el
 have hv:=ha.ev hx
 generalize hu:a.eval x=u at*
 cases hv with
 |emp _ ad cap h3 h4=>
  have hb:=c0C (P:=P) (W:=W) (cap:=cap) ha hl hh h0 (Nat.zero_le _)
  obtain⟨g1,g2,g3⟩:=h0
  simp at g3
  obtain rfl:l=0:=by omega
  obtain rfl:h=0:=by omega
  simp at hm
  subst hm
  rw[hys rfl]
  refine⟨.slice (if cap=0 then ad else ad.map (·.add (0*sz))) 0 (cap-0),?_,.emp _ _ _ (fun h=>by cases h) (by omega)⟩
  simp[execOp,ho,hu,Instr.sliceAt,Instr.slice,run_underlying hs.ty,hb,sizeOf,typeInfo,hi,hi2]
 | ro _ _ _ b off cap us hb' hc hr h3 h4 h5=>
  have hb:=c0C (P:=P) (W:=W) (cap:=cap) ha hl hh h0 h3
  obtain⟨g1,g2,g3⟩:=h0
  have hlen:l.toNat≤h.toNat:=by omega
  have hhn:h.toNat≤n:=by omega
  refine⟨.slice (if cap=l.toNat then some ⟨b,off,none⟩else some ⟨b,off+l.toNat*sz,none⟩) (h.toNat-l.toNat) (cap-l.toNat),?_,?_⟩
  ·simp only[execOp,ho,hu,Instr.sliceAt,Instr.slice,run_underlying hs.ty,Sem.run_bind,Result.andThen_ok,hb,sizeOf,typeInfo,hi,hi2,run_program,Sem.run_pure,Option.map_none]
   split<;>simp[a0H]
  ·rw[hm]
   by_cases hz:cap=l.toNat
   ·rw[if_pos hz]
    have:m=0:=by omega
    subst this
    rw[hys rfl]
    exact .emp _ _ _ (fun h=>by cases h) (by omega)
   ·rw[if_neg hz]
    subst hy
    refine .ro _ _ _ b (off+l.toNat*sz) _ (fun j=>us (l.toNat*sz+j)) hb' (fun j hj=> ?_) (fun j hj=> ?_) (by omega) (by omega) (fun h=>by cases h)
    ·simp at hj
     rw[Nat.add_assoc]
     exact hc _ (by omega)
    ·simp only[List.getElem_take,List.getElem_drop]
     simp at hj
     exact hr _ (by omega)
theorem O.sliceTo {T:Nat}{x y:Operand}{full:Bool}{n k:Nat}{kk:IntKind}{z:Int}{xs ys:List AV}{U sz bs:Nat}{zz:Value}[hs:TyS P T U sz bs zz](ho:o.op= .slice T x none (some y) none)(hx:ev E x=some (.ro full n xs))(hy:ev E y=some (.val (.int kk z)))(hz:z=(k:Int))(hk:k≤n)(hys:xs.take (k*sz)=ys):
  OpW P N o E H (Is (.ro false k ys)):=by
 subst hz
 refine O.sliceR (l:=0) (h:=(k:Int)) ho hx rfl (by simp[c0A,hy]) ⟨by omega,by omega,by omega⟩ (by simp) (by simpa using hys) (fun h=> ?_)
 subst h;rw[←hys];simp
theorem O.sliceFrom {T:Nat}{x y:Operand}{full:Bool}{n k:Nat}{kk:IntKind}{z:Int}{xs ys:List AV}{U sz bs:Nat}{zz:Value}[hs:TyS P T U sz bs zz](ho:o.op= .slice T x (some y) none none)(hx:ev E x=some (.ro full n xs))(hy:ev E y=some (.val (.int kk z)))(hz:z=(k:Int))(hk:k≤n)(hl:xs.length=n*sz)(hys:xs.drop (k*sz)=ys):
  OpW P N o E H (Is (.ro false (n-k) ys)):=by
 subst hz
 have hlen:(xs.drop (k*sz)).length=(n-k)*sz:=by rw[List.length_drop,hl,Nat.sub_mul]
 refine O.sliceR (l:=(k:Int)) (h:=(n:Int)) (m:=n-k) ho hx (by simp[c0A,hy]) rfl ⟨by omega,by omega,by omega⟩ (by simp) ?_ (fun h=> ?_)
 ·simp only[Int.toNat_natCast]
  rw[List.take_of_length_le (by rw[hlen];exact Nat.le_refl _),hys]
 ·rw[←hys];exact List.eq_nil_of_length_eq_zero (by rw[hlen,h,Nat.zero_mul])
end
def Coe (a b:AV):Prop:= ∀R W u,RelV R W a u→RelV R W b u
def CoeL (a b:List AV):Prop:= ∀R W us,RelL R W a us→RelL R W b us
theorem Coe.rfl {a:AV}:Coe a a:=fun _ _ _ h=>h
theorem Coe.nil:Coe (.val (.slice none 0 0)) (.ro false 0 []):=fun _ _ _ h=>h.nilRo
theorem Coe.unfull {full:Bool}{n:Nat}{xs:List AV}:Coe (.ro full n xs) (.ro false n xs):=fun _ _ _ h=>h.unfull
theorem CoeL.nil:CoeL [] []:=fun _ _ _ h=>h
theorem CoeL.cons {a b:AV}{x y:List AV}(h:Coe a b)(hs:CoeL x y):CoeL (a::x) (b::y):=fun R W us hu=>by
 obtain⟨u,r,rfl,h1,h2⟩:=hu.uncons
 exact RelL.cons (h R W u h1) (hs R W r h2)
theorem CoeL.refl {a:List AV}:CoeL a a:=fun _ _ _ h=>h
theorem Coe.agg {x y:List AV}(h:CoeL x y):Coe (.agg x) (.agg y):=fun R W u hu=>by
 obtain⟨us,rfl,h1⟩:=hu.agg_inv
 exact(h R W us h1).toAgg
theorem wE {x y:List AV}(h:CoeL x y:=by(repeat(first|exact CoeL.nil|refine CoeL.cons Coe.rfl ?_|refine CoeL.cons Coe.nil ?_));done):Coe (.agg x) (.agg y):=Coe.agg h
theorem Sp.coe {P:Program}{f:FuncId}{args args':List AV}{H0:List HE}{Post:AV→List HE→Prop}(h:Sp P f args' H0 Post)(hc:CoeL args args'):Sp P f args H0 Post:=fun W R us h1 h2 h3 h4=>h W R us h1 h2 h3 (hc R W us h4)
section
variable {Γ:Cx}{P:Program}{Q:Exit→Act→World→Prop}{E:Env}{H:List HE}{N:Nat}{o:Oper}{ops:Array Oper}{rest:List Oper}
theorem O.callC {f:FuncId}{xs:List Operand}{ats:Array TypeId}{args args':List AV}{Post:AV→List HE→Prop}{fn:Func}(ho:o.op= .call {callee:= .value (.func f),args:=xs.toArray,argTypes:=ats})(hfn:P.funcs[f]? =some fn)(hn:(fn.name== "runtime.NumGoroutine")=false)(hb:fn.body.isNone=false)
  (hx:evs E xs=some args) (h:Sp P f args' [] Post) (hc:CoeL args args'):OpW P N o E H Post:=O.call ho hfn hn hb hx (h.coe hc)
theorem vw {f:FuncId}{xs:List Operand}{ats:Array TypeId}{args args':List AV}{Post:AV→List HE→Prop}{fn:Func}(ho:o.op= .call {callee:= .value (.func f),args:=xs.toArray,argTypes:=ats})(hfn:P.funcs[f]? =some fn)(hn:(fn.name== "runtime.NumGoroutine")=false)(hb:fn.body.isNone=false)(hx:evs E xs=some args)(h:Sp P f args' [] Post)(hc:CoeL args args':=by(repeat(first|exact CoeL.nil|refine CoeL.cons Coe.rfl ?_|refine CoeL.cons Coe.nil ?_|refine CoeL.cons (Coe.agg ?_) ?_));done):OpW P N o E H Post:=O.callC ho hfn hn hb hx h hc
theorem G.re {X:Act→World→Prop}(t:Nat)(b:AV)(ht:a0q E t=some b)(k:G Γ ((t,b)::E) H X):G Γ E H X:=fun R a' W hs ha=>k R a' W hs (ha.shadow (ha.slots t _ ht))
theorem G.coe {X:Act→World→Prop}(t:Nat){a b:AV}(ht:a0q E t=some a)(h:Coe a b)(k:G Γ ((t,b)::E) H X):G Γ E H X:=fun R a' W hs ha=>k R a' W hs (ha.shadow (h R W _ (ha.slots t _ ht)))
end
theorem l0S (v n:Int)(h:0<n):(if v.tmod n<0 then v.tmod n+n else v.tmod n)=v%n:=by
 have h1:=Int.tmod_add_mul_tdiv v n
 have h2:v.tmod n<n:=Int.tmod_lt_of_pos v h
 have h3: -n<v.tmod n:=by
  rcases Int.le_total 0 v with hv|hv
  ·have:=Int.tmod_nonneg n hv;omega
  ·have:=Int.lt_tmod_of_pos v h;omega
 split
 ·rename_i hlt
  have e:v=v.tmod n+n+n*(v.tdiv n-1):=by rw[Int.mul_sub];omega
  rw[e,Int.add_mul_emod_self_left,←e,Int.emod_eq_of_lt (by omega) (by omega)]
 ·have e:v=v.tmod n+n*(v.tdiv n):=by omega
  rw[e,Int.add_mul_emod_self_left,←e,Int.emod_eq_of_lt (by omega) (by omega)]
def u8 (x:Int):UInt8:=UInt8.ofNat (x%256).toNat
theorem c0c (x:Int):((u8 x).toNat:Int)=x%256:=by
 have h1:=Int.emod_nonneg x (show(256:Int)≠0 by omega)
 have h2:=Int.emod_lt_of_pos x (show(0:Int)<256 by omega)
 rw[u8,UInt8.toNat_ofNat_of_lt' (by simp[UInt8.size];omega)]
 omega
theorem d0A {x:Int}:IntKind.u8.wrap x=((u8 x).toNat:Int):=by
 rw[c0c];rfl
section
variable {Γ:Cx}{P:Program}{Q:Exit→Act→World→Prop}{E:Env}{H:List HE}{N:Nat}{o:Oper}{ops:Array Oper}{rest:List Oper}
def IsM (v:AV)(e:HE):AV→List HE→Prop:=fun r H'=>r=v∧H'= [e]
theorem d0L: ∀{H:List HE} {i:Nat} {e:HE},H[i]? =some e→H.Perm (e::H.eraseIdx i)
 | [],i,e,h=>by simp at h
 |x::r,0,e,h=>by simp at h;subst h;exact List.Perm.refl _
 |x::r,i+1,e,h=>((d0L (H:=r) (i:=i) (by simpa using h)).cons x).trans (List.Perm.swap ..)
theorem h0f: ∀{H:List HE} {i:Nat} {e e':HE},H[i]? =some e→(e'::H.eraseIdx i).Perm (H.set i e')
 | [],i,e,e',h=>by simp at h
 |x::r,0,e,e',h=>List.Perm.refl _
 |x::r,i+1,e,e',h=>(List.Perm.swap ..).trans ((h0f (H:=r) (i:=i) (e':=e') (by simpa using h)).cons x)
theorem AO.perm {H':List HE}{l:List Oper}(hp:H.Perm H')(h:AO Γ P ops Q l E H'):AO Γ P ops Q l E H:=fun R a W hs ha=>h R a W (hs.perm hp.symm) ha
theorem AO.callM1 {f:FuncId}{d:Nat}{xs:List Operand}{ats:Array TypeId}{args:List AV}{i:Nat}{e e':HE}{v:AV}{H':List HE}{fn:Func}(ho:o.op= .call {callee:= .value (.func f),args:=xs.toArray,argTypes:=ats})(hgd:o.guard=none)(hfn:P.funcs[f]? =some fn)(hn:(fn.name== "runtime.NumGoroutine")=false)(hb:fn.body.isNone=false)
  (hx:evs E xs=some args) (hd:o.dst=some d) (hN:Nat.ble (d+1) Γ.N=true) (hi:H[i]? =some e) (h:Sp P f args [e] (IsM v e')) (hH:H.set i e'=H') (next:AO Γ P ops Q rest ((d,v)::E) H'):AO Γ P ops Q (o::rest) E H:=
 AO.callM (H0:= [e]) (H1:=H.eraseIdx i) ho hgd hfn hn hb hx hd (lB hN) (d0L hi) h (by
  rintro _ _ ⟨rfl,rfl⟩
  exact AO.perm (by rw[←hH];exact h0f hi) next)
theorem xJ {f:FuncId}{d:Nat}{xs:List Operand}{ats:Array TypeId}{args:List AV}(i:Nat){e e':HE}{v:AV}{H':List HE}{fn:Func}(ho:o.op= .call {callee:= .value (.func f),args:=xs.toArray,argTypes:=ats})(hgd:o.guard=none)(hfn:P.funcs[f]? =some fn)(hn:(fn.name== "runtime.NumGoroutine")=false)(hb:fn.body.isNone=false)(hx:evs E xs=some args)(hd:o.dst=some d)(hN:Nat.ble (d+1) Γ.N=true)(hi:H[i]? =some e)(h:Sp P f args [e] (IsM v e'))(next:AO Γ P ops Q rest ((d,v)::E) H')(hH:H.set i e'=H':=by(dsimp only[List.set,cA,cN,List.take,List.drop];done)):AO Γ P ops Q (o::rest) E H:=AO.callM1 (i:=i) ho hgd hfn hn hb hx hd hN hi h hH next
theorem AO.callMG {f:FuncId}{d:Nat}{xs:List Operand}{ats:Array TypeId}{args:List AV}(i:Nat){e:HE}{Post:AV→List HE→Prop}{fn:Func}(ho:o.op= .call {callee:= .value (.func f),args:=xs.toArray,argTypes:=ats})(hgd:o.guard=none)(hfn:P.funcs[f]? =some fn)(hn:(fn.name== "runtime.NumGoroutine")=false)(hb:fn.body.isNone=false)
  (hx:evs E xs=some args) (hd:o.dst=some d) (hN:Nat.ble (d+1) Γ.N=true) (hi:H[i]? =some e) (h:Sp P f args [e] Post) (next: ∀r H',Post r H'→AO Γ P ops Q rest ((d,r)::E) (H'++H.eraseIdx i)):AO Γ P ops Q (o::rest) E H:=
 AO.callM (H0:= [e]) (H1:=H.eraseIdx i) ho hgd hfn hn hb hx hd (lB hN) (d0L hi) h next
theorem j0S {R:Nat→Prop}{W:World}{v:Value}{T sz n:Nat}{xs:List AV}(h:HE.ok R W (.row v T sz n xs)):RelV (fun b=>R b∨(HE.row v T sz n xs).foot b) W (.ro false n xs) v:=by
 obtain⟨us,hown,hr⟩:=h
 have hr':=hr.mono (R':=fun b=>R b∨(HE.row v T sz n xs).foot b) (fun _ h=> .inl h) (W':=W) (fun _ _=>rfl)
 rcases hown.2 with⟨rfl,rfl⟩|⟨g,cap,cur,rfl,hbg,hg,h1,h2,h3,h4⟩
 ·have:xs= []:=List.eq_nil_of_length_eq_zero (by rw[←hr.1,hown.1];simp)
  subst this
  exact .emp _ _ _ (fun h=>by cases h) (Nat.zero_le _)
 ·refine .ro false n xs g 0 cap (fun j=>us.getD j undef) (.inr rfl) (fun j hj=> ?_) (fun j hj=>hr'.2 j hj) h1 h2 (fun h=>by cases h)
  have hj':j<us.length:=by rw[hr.1];exact hj
  have:=hown.cells (g:=g) rfl j us[j] (by simp[hj'])
  rw[a0H]at this
  rw[this]
  simp[List.getD,hj']
inductive LendL (v:Value) (y:AV):List AV→List AV→Prop
 |nil:LendL v y [] []
 |same {a:AV} {r r':List AV}:LendL v y r r'→LendL v y (a::r) (a::r')
 |lend {r r':List AV}:LendL v y r r'→LendL v y (.val v::r) (y::r')
theorem LendL.rel {R R1:Nat→Prop}{W:World}{v:Value}{y:AV}(hR: ∀b,R b→R1 b)(hy:RelV R1 W y v){a a':List AV}(h:LendL v y a a'): ∀{us:List Value},RelL R W a us→RelL R1 W a' us:=by
 induction h with
 |nil=>intro us h;exact h.mono hR (fun _ _=>rfl)
 |same _ ih=>
  intro us h
  obtain⟨u,r,rfl,h1,h2⟩:=h.uncons
  exact RelL.cons (h1.mono hR (fun _ _=>rfl)) (ih h2)
 |lend _ ih=>
  intro us h
  obtain⟨u,r,rfl,h1,h2⟩:=h.uncons
  have:=h1.val_inv
  subst this
  exact RelL.cons hy (ih h2)
theorem O.callL {f:FuncId}{xs:List Operand}{ats:Array TypeId}{args args':List AV}{v c:Value}{T sz n:Nat}{rs:List AV}{fn:Func}(ho:o.op= .call {callee:= .value (.func f),args:=xs.toArray,argTypes:=ats})(hfn:P.funcs[f]? =some fn)(hn:(fn.name== "runtime.NumGoroutine")=false)(hb:fn.body.isNone=false)
  (hx:evs E xs=some args) (hm:HE.row v T sz n rs∈H) (h:Sp P f args' [] (Is (.val c))) (hl:LendL v (.ro false n rs) args args'):OpW P N o E H (Is (.val c)):=fun R a W h0 h2 h3 ha=>by
 have hR: ∀b,R b→R b∨(HE.row v T sz n rs).foot b:=fun _ h=> .inl h
 have hlt: ∀b,R b∨(HE.row v T sz n rs).foot b→b<W.heap.size:=by
  rintro b (hb|hb)
  ·exact h0 b hb
  ·exact HE.ok_lt (h2 _ hm) hb
 unfold Oper.wp
 rw[b0S ho hfn hn hb,List.map_toArray]
 have hc:=h W _ (xs.map a.eval) hlt (fun e he=>by cases he) .nil (hl.rel hR (j0S (h2 _ hm)) (ha.evs hx))
 refine Calls.mono hc ?_
 rintro e W' ⟨u,r,H',R',rfl,⟨rfl,rfl⟩,hs,hv⟩
 have p:=d0P hs hv hlt
 exact⟨u,.val c,[],R,rfl,⟨rfl,rfl⟩,p.ext,fun _ h=>h,fun _ h=> .inl h,by rw[hv.val_inv];exact .val _,fun _ he=>(by cases he),.nil⟩
theorem OpW.frz {n U room:Nat}{ys:List AV}(h:OpW P N o E H (b0f (fun b=> .val (.slice (some ⟨b,0,none⟩) n n)) U room ys))(hn:n≤maxLen):OpW P N o E H (Is (.ro false n ys)):=fun R a W h1 h2 h3 h4=>by
 refine Oper.wp_mono ?_ (h R a W h1 h2 h3 h4)
 rintro A' W' ⟨u,v,Hn,R',rfl,⟨b,rfl,rfl⟩,p⟩
 obtain⟨hok,hfo⟩:=p.ok _ (List.mem_cons_self ..)
 have hu:=p.val.val_inv
 subst hu
 refine⟨_,.ro false n ys,[],fun c=>R' c∨c=b,rfl,⟨rfl,rfl⟩,p.ext,fun c hc=> .inl (p.sub c hc),fun c hc=> ?_,?_,fun _ he=>(by cases he),.nil⟩
 ·rcases hc with hc|rfl
  ·exact p.new c hc
  ·exact .inr ⟨(hfo _ rfl).1,HE.ok_lt hok rfl⟩
 ·refine .ro false n ys b 0 n (fun j=>(W'.cell? ⟨b,0+j,none⟩).getD undef) (.inr rfl) (fun j hj=> ?_) (fun j hj=> ?_) (Nat.le_refl _) hn (fun h=>by cases h)
  ·obtain⟨u,hu,_⟩:=d0V hok (j:=j) (v:=ys[j]) (by simp[hj])
   rw[Nat.zero_add,hu];rfl
  ·obtain⟨u,hu,hr⟩:=d0V hok (j:=j) (v:=ys[j]) (by simp[hj])
   rw[Nat.zero_add,hu]
   exact hr.mono (fun _ h=> .inl h) (fun _ _=>rfl)
theorem y6 {n U room:Nat}{ys:List AV}(h:OpW P N o E H (b0f (fun b=> .val (.slice (some ⟨b,0,none⟩) n n)) U room ys):=by exact(O.buildSlice rfl rfl rfl (by rfl) (by rfl) (by rfl) (by rfl)))(hn:n≤maxLen:=by(unfold maxLen;omega)):OpW P N o E H (Is (.ro false n ys)):=OpW.frz h hn
theorem O.sliceMax {T:Nat}{x y y':Operand}{full:Bool}{n k:Nat}{kk kk':IntKind}{z z':Int}{xs ys:List AV}{U sz bs:Nat}{zz:Value}[hs:TyS P T U sz bs zz](ho:o.op= .slice T x none (some y) (some y'))(hx:ev E x=some (.ro full n xs))(hy:ev E y=some (.val (.int kk z)))(hy':ev E y'=some (.val (.int kk' z')))
  (hz:z=(k:Int)) (hz':z'=(k:Int)) (hk:k≤n) (hys:xs.take (k*sz)=ys):OpW P N o E H (Is (.ro true k ys)):= .of_run fun R a W h1 h2 ha=>by
 subst hz
 subst hz'
 obtain⟨i,hi,hi2, -⟩:=hs.el
 have hv:=ha.ev hx
 have e1:=(ha.ev hy).val_inv
 have e2:=(ha.ev hy').val_inv
 generalize hu:a.eval x=u at*
 have hb: ∀cap:Nat,k≤cap→(Instr.sliceBounds true n cap none (some (a.eval y)) (some (a.eval y'))).run P W= .ok (0,k,k) W:=fun cap hc=>by
  have h5:(k:Int)≤(cap:Int):=by omega
  simp[Instr.sliceBounds,Instr.sliceBound,e1,e2,asIntOf,h5]
 cases hv with
 |emp _ ad cap h3 h4=>
  obtain rfl:k=0:=by omega
  have hb:=hb cap (by omega)
  have:ys= []:=by rw[←hys];simp
  subst this
  refine⟨.slice (if(0:Nat)=0 then ad else ad.map (·.add (0*sz))) 0 0,?_,.emp _ _ _ (fun _=>rfl) (by omega)⟩
  simp[execOp,ho,hu,Instr.sliceAt,Instr.slice,run_underlying hs.ty,hb,sizeOf,typeInfo,hi,hi2]
 | ro _ _ _ b off cap us hb' hc hr h3 h4 h5=>
  have hb:=hb cap (by omega)
  refine⟨.slice (some ⟨b,off,none⟩) k k,?_,?_⟩
  ·simp only[execOp,ho,hu,Instr.sliceAt,Instr.slice,run_underlying hs.ty,Sem.run_bind,Result.andThen_ok,hb,sizeOf,typeInfo,hi,hi2,run_program,Sem.run_pure,Option.map_none,Option.map_some]
   split<;>simp[a0H]
  ·subst hys
   refine .ro _ _ _ b off _ us hb' (fun j hj=> ?_) (fun j hj=> ?_) (Nat.le_refl _) (by omega) (fun h=>rfl)
   ·simp at hj;exact hc _ (by omega)
   ·simp only[List.getElem_take]
    simp at hj
    exact hr _ (by omega)
theorem O.and_ {T T':Nat}{x y:Operand}{k:IntKind}{p q c:Int}(ho:o.op= .binOp .and T x y T')(hx:ev E x=some (.val (.int k p)))(hy:ev E y=some (.val (.int k q)))(hc:Go.bits .and k p q=c):OpW P N o E H (Is (.val (.int k c))):=
 O.binI ho hx hy fun W=>by simp[binOp,intBits_and,hc]
theorem O.or_ {T T':Nat}{x y:Operand}{k:IntKind}{p q c:Int}(ho:o.op= .binOp .or T x y T')(hx:ev E x=some (.val (.int k p)))(hy:ev E y=some (.val (.int k q)))(hc:Go.bits .or k p q=c):OpW P N o E H (Is (.val (.int k c))):=
 O.binI ho hx hy fun W=>by simp[binOp,intBits_or,hc]
theorem O.xor_ {T T':Nat}{x y:Operand}{k:IntKind}{p q c:Int}(ho:o.op= .binOp .xor T x y T')(hx:ev E x=some (.val (.int k p)))(hy:ev E y=some (.val (.int k q)))(hc:Go.bits .xor k p q=c):OpW P N o E H (Is (.val (.int k c))):=
 O.binI ho hx hy fun W=>by simp[binOp,intBits_xor,hc]
def c0B:List AV→Option (List Value)
 | []=>some []
 | .val v::r=>(c0B r).map (v:: ·)
 |_::_=>none
theorem g0o {R:Nat→Prop}{W:World}: ∀{xs:List AV} {us vs:List Value},c0B xs=some us→RelL R W xs vs→vs=us
 | [],us,vs,h,hr=>by
  cases h
  exact List.eq_nil_of_length_eq_zero (by simpa using hr.1)
 | x::xs,us,vs,h,hr=>by
  obtain⟨v,r,rfl,h1,h2⟩:=hr.uncons
  cases x with
  | val w=>
   simp only[c0B]at h
   cases hq:c0B xs with
   |none=>rw[hq]at h;cases h
   |some us'=>
    rw[hq]at h
    cases h
    rw[h1.val_inv,g0o hq h2]
  |_=>simp[c0B]at h
theorem AQ.retCT {fn:Func}{Post:AV→List HE→Prop}{t s T k b T' room:Nat}{q:AV}{xs ys:List AV}{H':List HE}[hg:TyG P T true k](hr:fn.results= #[.cell t T,.tmp s])(ht:a0q E t=some (.val (.pointer (some ⟨b,0,none⟩))))(hs':a0q E s=some q)(hm:HE.blk b T' room xs∈H)(hv:xs.take k=ys)(hk:ys.length=k)
  (hH: ∃H1,H1.Sublist H∧H'.Perm H1) (hp:Post (.tup [.agg ys,q]) H'):AQ Γ (FnQ Γ P fn Post) .ret E H:=fun R a W hs ha=>by
 obtain⟨H1,h1,h2⟩:=hH
 obtain⟨us,cs,hb,hsz,hts,hrl⟩:=hs.ok _ hm
 have hrl:=hrl.take k
 rw[hv]at hrl
 have hl:=b0E hg W b 0 (us.take k) (by rw[hrl.1,hk]) (fun i u hi=>by
  rw[cell_of_row W b (0+i) cs T' (0,0) hb]
  rw[List.getElem?_take]at hi
  split at hi
  ·rw[←hts,List.getElem?_take]at hi
   split at hi
   ·simpa using hi
   ·cases hi
  ·cases hi)
 have hv':=(ha.slots t _ ht).val_inv
 have hq:=ha.slots s _ hs'
 refine⟨ha.defers,.tuple #[.agg (us.take k).toArray,a.eval (.tmp s)],?_,_,_,H',R,rfl,hp,?_,RelL.toTup (us:= [.agg (us.take k).toArray,a.eval (.tmp s)]) (RelL.cons hrl.toAgg (RelL.cons hq RelL.nil))⟩
 ·have:a.tmps.getD t undef= .pointer (some ⟨b,0,none⟩):=hv'
  simp[results,hr,Act.eval]at*
  simp[this,asAddr,hl]
 ·have:=(hs.sub h1).perm h2
  exact⟨this.mods,this.rlt,this.rsub,this.rnew,this.ok,this.own,this.disj⟩
theorem zo {fn:Func}{Post:AV→List HE→Prop}{t s T k b T' room:Nat}{q:AV}{xs ys:List AV}{H':List HE}(hr:fn.results= #[.cell t T,.tmp s]:=by exact rfl)(hg:TyG P T true k:=by infer_instance)(ht:a0q E t=some (.val (.pointer (some ⟨b,0,none⟩))):=by exact rfl)(hs':a0q E s=some q:=by exact rfl)(hm:HE.blk b T' room xs∈H:=by repeat(first|exact List.Mem.head _|refine List.Mem.tail _ ?_))(hv:xs.take k=ys:=by(dsimp only[List.set,cA,cN,List.take,List.drop];done))(hk:ys.length=k:=by rfl)(hH: ∃H1,H1.Sublist H∧H'.Perm H1:=by exact nS)(hp:Post (.tup [.agg ys,q]) H':=by exact⟨rfl,rfl⟩):AQ Γ (FnQ Γ P fn Post) .ret E H:=AQ.retCT hr ht hs' hm hv hk hH hp
theorem zP {fn:Func}{Post:AV→List HE→Prop}{t s T k b T' room:Nat}{q:AV}{xs ys:List AV}{H':List HE}(hr:fn.results= #[.cell t T,.tmp s]:=by exact rfl)(hg:TyG P T true k:=by infer_instance)(ht:a0q E t=some (.val (.pointer (some ⟨b,0,none⟩))):=by exact rfl)(hs':a0q E s=some q:=by exact rfl)(hm:HE.blk b T' room xs∈H:=by repeat(exact List.Mem.head _))(hv:xs.take k=ys:=by(dsimp only[List.set,cA,cN,List.take,List.drop];done))(hk:ys.length=k:=by rfl)(hH: ∃H1,H1.Sublist H∧H'.Perm H1:=by exact nS)(hp:Post (.tup [.agg ys,q]) H':=by exact⟨rfl,rfl⟩):AQ Γ (FnQ Γ P fn Post) .ret E H:=AQ.retCT hr ht hs' hm hv hk hH hp
theorem vN {fn:Func}{Post:AV→List HE→Prop}{t s T k b T' room:Nat}{q:AV}{xs ys:List AV}{H':List HE}(hr:fn.results= #[.cell t T,.tmp s]:=by exact rfl)(hg:TyG P T true k:=by infer_instance)(ht:a0q E t=some (.val (.pointer (some ⟨b,0,none⟩))):=by exact rfl)(hs':a0q E s=some q:=by exact rfl)(hm:HE.blk b T' room xs∈H:=by repeat(first|exact List.Mem.head _|refine List.Mem.tail _ ?_))(hv:xs.take k=ys:=by(dsimp only[List.set,List.append,cA,cN,a0s,a0r,a0u,a0e,a0v,AV.cells,List.map,List.map_cons,List.map_nil,List.take,List.drop,Nat.zero_add,Nat.add_zero,Nat.reduceAdd,Nat.reduceMul,Nat.zero_mul,Value.cells,List.toList_toArray,a0t,List.replicate,List.flatten,cP];done))(hk:ys.length=k:=by rfl)(hH: ∃H1,H1.Sublist H∧H'.Perm H1:=by exact nS)(hp:Post (.tup [.agg ys,q]) H':=by exact⟨rfl,rfl⟩):AQ Γ (FnQ Γ P fn Post) .ret E H:=AQ.retCT hr ht hs' hm hv hk hH hp
theorem a0B {H:List HE}: ∃H1,H1.Sublist H∧([]:List HE).Perm H1:=⟨[],List.nil_sublist _,.nil⟩
theorem a0x (i:Nat){e:HE}{r H:List HE}(h:H[i]? =some e)(hr: ∃H1,H1.Sublist (H.eraseIdx i)∧r.Perm H1): ∃H1,H1.Sublist H∧(e::r).Perm H1:=by
 obtain⟨H1,h1,h2⟩:=hr
 obtain⟨hlt,rfl⟩:=List.getElem?_eq_some_iff.1 h
 rw[List.eraseIdx_eq_take_drop_succ,List.sublist_append_iff]at h1
 obtain⟨A,B,rfl,hA,hB⟩:=h1
 refine⟨A++H[i]::B,?_,?_⟩
 ·have e:H=H.take i++H[i]::H.drop (i+1):=by rw[←List.drop_eq_getElem_cons hlt,List.take_append_drop]
  have h9:(A++H[i]::B).Sublist (H.take i++H[i]::H.drop (i+1)):=hA.append (hB.cons_cons _)
  rwa [←e]at h9
 ·exact(h2.cons _).trans (List.perm_middle.symm)
def e0w (K:Env)(I:Nat→Env→List HE→Prop):Nat→Env→List HE→Prop:=fun n E H=> ∃E1,I n E1 H∧E=E1++K
theorem h0q {K E1:Env}(h1: ∀p∈E1,a0q E p.1=some p.2)(h2: ∀p∈K,a0q E p.1=some p.2): ∀p∈E1++K,a0q E p.1=some p.2:=fun p hp=>by
 rcases List.mem_append.1 hp with hp|hp
 ·exact h1 p hp
 ·exact h2 p hp
theorem AW.loopK {c:Code}(K:Env)(I:Nat→Env→List HE→Prop)(n:Nat){E0:Env}{H0:List HE}(hI:I n E0 H0)(hK: ∀p∈K,a0q E p.1=some p.2)(hE: ∀p∈E0,a0q E p.1=some p.2)(hH: ∃H1,H1.Sublist H∧H0.Perm H1)
  (round: ∀n E1 H,I n E1 H→AW Γ P (c0U (e0w K I) n Γ Q) c (E1++K) H):AW Γ P Q (.loop c) E H:=
 AW.loop (e0w K I) n (E0:=E0++K) (H0:=H0) ⟨E0,hI,rfl⟩ (h0q hE hK) hH (by
  rintro n _ H ⟨E1,h,rfl⟩
  exact round n E1 H h)
theorem zh {c:Code}{E0:Env}{H0:List HE}(K:Env)(I:Nat→Env→List HE→Prop)(n:Nat)(hI:I n E0 H0)(round: ∀n E1 H,I n E1 H→AW Γ P (c0U (e0w K I) n Γ Q) c (E1++K) H)(hK: ∀p∈K,a0q E p.1=some p.2:=by repeat(first|exact a0m|refine a0k rfl ?_))(hE: ∀p∈E0,a0q E p.1=some p.2:=by repeat(first|exact a0m|refine a0k rfl ?_))(hH: ∃H1,H1.Sublist H∧H0.Perm H1:=by repeat(first|exact a0B|refine a0x 0 rfl ?_)):AW Γ P Q (.loop c) E H:=AW.loopK K I n hI hK hE hH round
theorem xT {c:Code}{E0:Env}{H0:List HE}(K:Env)(I:Nat→Env→List HE→Prop)(n:Nat)(hI:I n E0 H0)(round: ∀n E1 H,I n E1 H→AW Γ P (c0U (e0w K I) n Γ Q) c (E1++K) H)(hK: ∀p∈K,a0q E p.1=some p.2:=by repeat(first|exact a0m|refine a0k rfl ?_))(hE: ∀p∈E0,a0q E p.1=some p.2:=by repeat(first|exact a0m|refine a0k rfl ?_))(hH: ∃H1,H1.Sublist H∧H0.Perm H1:=by repeat(exact a0B)):AW Γ P Q (.loop c) E H:=AW.loopK K I n hI hK hE hH round
theorem xZ {c:Code}{E0:Env}{H0:List HE}(K:Env)(I:Nat→Env→List HE→Prop)(n:Nat)(hI:I n E0 H0)(round: ∀n E1 H,I n E1 H→AW Γ P (c0U (e0w K I) n Γ Q) c (E1++K) H)(hK: ∀p∈K,a0q E p.1=some p.2:=by repeat(first|exact a0m|refine a0k rfl ?_))(hE: ∀p∈E0,a0q E p.1=some p.2:=by repeat(first|exact a0m|refine a0k rfl ?_))(hH: ∃H1,H1.Sublist H∧H0.Perm H1:=by repeat(first|exact a0B|refine a0x 0 rfl ?_|refine a0x 1 rfl ?_)):AW Γ P Q (.loop c) E H:=AW.loopK K I n hI hK hE hH round
theorem AQ.loopKN {K:Env}{I:Nat→Env→List HE→Prop}{n:Nat}(m:Nat)(E1:Env)(H0:List HE)(hm:m<n)(hI:I m E1 H0)(hK: ∀p∈K,a0q E p.1=some p.2)(hE: ∀p∈E1,a0q E p.1=some p.2)(hH: ∃H1,H1.Sublist H∧H0.Perm H1):
  AQ Γ (c0U (e0w K I) n Γ Q) .normal E H:=AQ.loopN m (E1++K) H0 hm ⟨E1,hI,rfl⟩ (h0q hE hK) hH
theorem zr {K:Env}{I:Nat→Env→List HE→Prop}{n:Nat}(m:Nat)(E1:Env)(H0:List HE)(hm:m<n)(hI:I m E1 H0)(hK: ∀p∈K,a0q E p.1=some p.2:=by repeat(first|exact a0m|refine a0k rfl ?_))(hE: ∀p∈E1,a0q E p.1=some p.2:=by repeat(first|exact a0m|refine a0k rfl ?_))(hH: ∃H1,H1.Sublist H∧H0.Perm H1:=by repeat(first|exact a0B|refine a0x 0 rfl ?_)):AQ Γ (c0U (e0w K I) n Γ Q) .normal E H:=AQ.loopKN m E1 H0 hm hI hK hE hH
theorem zJ {K:Env}{I:Nat→Env→List HE→Prop}{n:Nat}(m:Nat)(E1:Env)(H0:List HE)(hm:m<n)(hI:I m E1 H0)(hK: ∀p∈K,a0q E p.1=some p.2:=by repeat(first|exact a0m|refine a0k rfl ?_))(hE: ∀p∈E1,a0q E p.1=some p.2:=by repeat(first|exact a0m|refine a0k rfl ?_))(hH: ∃H1,H1.Sublist H∧H0.Perm H1:=by repeat(first|exact a0B|refine a0x 1 rfl ?_)):AQ Γ (c0U (e0w K I) n Γ Q) .normal E H:=AQ.loopKN m E1 H0 hm hI hK hE hH
theorem xv {K:Env}{I:Nat→Env→List HE→Prop}{n:Nat}(m:Nat)(E1:Env)(H0:List HE)(hm:m<n)(hI:I m E1 H0)(hK: ∀p∈K,a0q E p.1=some p.2:=by repeat(first|exact a0m|refine a0k rfl ?_))(hE: ∀p∈E1,a0q E p.1=some p.2:=by repeat(first|exact a0m|refine a0k rfl ?_))(hH: ∃H1,H1.Sublist H∧H0.Perm H1:=by repeat(first|exact a0B|refine a0x 0 rfl ?_|refine a0x 1 rfl ?_)):AQ Γ (c0U (e0w K I) n Γ Q) .normal E H:=AQ.loopKN m E1 H0 hm hI hK hE hH
theorem xP {K:Env}{I:Nat→Env→List HE→Prop}{n:Nat}(m:Nat)(E1:Env)(H0:List HE)(hm:m<n)(hI:I m E1 H0)(hK: ∀p∈K,a0q E p.1=some p.2:=by repeat(first|exact a0m|refine a0k rfl ?_))(hE: ∀p∈E1,a0q E p.1=some p.2:=by repeat(first|exact a0m|refine a0k rfl ?_))(hH: ∃H1,H1.Sublist H∧H0.Perm H1:=by repeat(exact a0B)):AQ Γ (c0U (e0w K I) n Γ Q) .normal E H:=AQ.loopKN m E1 H0 hm hI hK hE hH
theorem wq {K:Env}{I:Nat→Env→List HE→Prop}{n:Nat}(m:Nat)(E1:Env)(H0:List HE)(hm:m<n)(hI:I m E1 H0)(hK: ∀p∈K,a0q E p.1=some p.2:=by repeat(exact a0m))(hE: ∀p∈E1,a0q E p.1=some p.2:=by repeat(first|exact a0m|refine a0k rfl ?_))(hH: ∃H1,H1.Sublist H∧H0.Perm H1:=by repeat(exact a0B)):AQ Γ (c0U (e0w K I) n Γ Q) .normal E H:=AQ.loopKN m E1 H0 hm hI hK hE hH
theorem wu {K:Env}{I:Nat→Env→List HE→Prop}{n:Nat}(m:Nat)(E1:Env)(H0:List HE)(hm:m<n)(hI:I m E1 H0)(hK: ∀p∈K,a0q E p.1=some p.2:=by repeat(first|exact a0m|refine a0k rfl ?_))(hE: ∀p∈E1,a0q E p.1=some p.2:=by repeat(first|exact a0m|refine a0k rfl ?_))(hH: ∃H1,H1.Sublist H∧H0.Perm H1:=by repeat(first|exact a0B|refine a0x 0 rfl ?_|refine a0x 1 rfl ?_|refine a0x 3 rfl ?_)):AQ Γ (c0U (e0w K I) n Γ Q) .normal E H:=AQ.loopKN m E1 H0 hm hI hK hE hH
theorem wF {K:Env}{I:Nat→Env→List HE→Prop}{n:Nat}(m:Nat)(E1:Env)(H0:List HE)(hm:m<n)(hI:I m E1 H0)(hK: ∀p∈K,a0q E p.1=some p.2:=by repeat(first|exact a0m|refine a0k rfl ?_))(hE: ∀p∈E1,a0q E p.1=some p.2:=by repeat(first|exact a0m|refine a0k rfl ?_))(hH: ∃H1,H1.Sublist H∧H0.Perm H1:=by repeat(first|exact a0B|refine a0x 0 rfl ?_|refine a0x 2 rfl ?_)):AQ Γ (c0U (e0w K I) n Γ Q) .normal E H:=AQ.loopKN m E1 H0 hm hI hK hE hH
theorem b0I {R:Nat→Prop}{W:World}{a:Act}{low high:Option Operand}{n cap:Nat}{l h:Int}(ha:RelA N R W E a)(hl:c0A E low 0=some l)(hh:c0A E high n=some h)(h0:0≤l∧l≤h∧h≤cap):
  (Instr.sliceBounds true n cap (low.map a.eval) (high.map a.eval) none).run P W= .ok (l.toNat,h.toNat,cap) W:=by
 obtain⟨h1,h2,hhc⟩:=h0
 cases high with
 | none=>
  obtain rfl:(n:Int)=h:=by simpa[c0A]using hh
  cases low with
  |none=>
   obtain rfl:(0:Int)=l:=by simpa[c0A]using hl
   simp[Instr.sliceBounds]
  |some x=>
   obtain⟨k,hk⟩:=d0U ha hl
   simp[Instr.sliceBounds,Instr.sliceBound,hk,asIntOf,h1,h2]
 | some y=>
  obtain⟨k',hk'⟩:=d0U ha hh
  have h4:0≤h:=by omega
  cases low with
  |none=>
   obtain rfl:(0:Int)=l:=by simpa[c0A]using hl
   simp[Instr.sliceBounds,Instr.sliceBound,hk',asIntOf,h4,hhc]
  |some x=>
   obtain⟨k,hk⟩:=d0U ha hl
   have h5:l≤max h 0:=by omega
   simp[Instr.sliceBounds,Instr.sliceBound,hk,hk',asIntOf,h1,h4,hhc]
   omega
theorem O.sliceV {T:Nat}{x:Operand}{low high:Option Operand}{b off n c:Nat}{l h:Int}{U sz bs:Nat}{zz:Value}[hs:TyS P T U sz bs zz](ho:o.op= .slice T x low high none)(hx:ev E x=some (.val (.slice (some ⟨b,off,none⟩) n c)))(hl:c0A E low 0=some l)(hh:c0A E high n=some h)(h0:0≤l∧l≤h∧h≤c)
  (hc:l<c):OpW P N o E H (Is (.val (.slice (some ⟨b,off+l.toNat*sz,none⟩) (h.toNat-l.toNat) (c-l.toNat)))):= .of_run fun R a W h1 h2 ha=>by
 obtain⟨i,hi,hi2, -⟩:=hs.el
 have hb:=b0I (P:=P) (W:=W) (cap:=c) ha hl hh h0
 refine⟨_,?_,.val _⟩
 have hne: ¬c=l.toNat:=by omega
 simp only[execOp,ho,(ha.ev hx).val_inv,Instr.sliceAt,Instr.slice,run_underlying hs.ty,Sem.run_bind,Result.andThen_ok,hb,sizeOf,typeInfo,hi,hi2,run_program,Sem.run_pure,Option.map_none]
 simp[hne,a0H]
theorem wD {T:Nat}{x:Operand}{low high:Option Operand}{b off n c:Nat}{l h:Int}{U sz bs:Nat}{zz:Value}(ho:o.op= .slice T x low high none:=by exact rfl)(hs:TyS P T U sz bs zz:=by infer_instance)(hx:ev E x=some (.val (.slice (some ⟨b,off,none⟩) n c)):=by exact rfl)(hl:c0A E low 0=some l:=by exact rfl)(hh:c0A E high n=some h:=by exact rfl)(h0:0≤l∧l≤h∧h≤c:=by exact⟨by omega,by omega,by omega⟩)(hc:l<c:=by omega):OpW P N o E H (Is (.val (.slice (some ⟨b,off+l.toNat*sz,none⟩) (h.toNat-l.toNat) (c-l.toNat)))):=O.sliceV ho hx hl hh h0 hc
theorem O.sliceV0 {T:Nat}{x:Operand}{low high:Option Operand}{b off n c:Nat}{l h:Int}{U sz bs:Nat}{zz:Value}[hs:TyS P T U sz bs zz](ho:o.op= .slice T x low high none)(hx:ev E x=some (.val (.slice (some ⟨b,off,none⟩) n c)))(hl:c0A E low 0=some l)(hh:c0A E high n=some h)(h0:0≤l∧l≤h∧h≤c)
  (hc:h=l) (hcm:c≤maxLen):OpW P N o E H (Is (.ro false 0 [])):= .of_run fun R a W h1 h2 ha=>by
 obtain⟨i,hi,hi2, -⟩:=hs.el
 subst hc
 have hb:=b0I (P:=P) (W:=W) (cap:=c) ha hl hh h0
 refine⟨.slice (if c=h.toNat then some ⟨b,off,none⟩else some ⟨b,off+h.toNat*sz,none⟩) 0 (c-h.toNat),?_,.emp _ _ _ (fun h=>by cases h) (by omega)⟩
 simp only[execOp,ho,(ha.ev hx).val_inv,Instr.sliceAt,Instr.slice,run_underlying hs.ty,Sem.run_bind,Result.andThen_ok,hb,sizeOf,typeInfo,hi,hi2,run_program,Sem.run_pure,Option.map_none]
 split<;>simp[a0H]
theorem O.sliceLH {T:Nat}{x y y':Operand}{full:Bool}{n l h:Nat}{kk kk':IntKind}{z z':Int}{xs ys:List AV}{U sz bs:Nat}{zz:Value}[hs:TyS P T U sz bs zz](ho:o.op= .slice T x (some y) (some y') none)(hx:ev E x=some (.ro full n xs))(hy:ev E y=some (.val (.int kk z)))(hy':ev E y'=some (.val (.int kk' z')))
  (hz:z=(l:Int)) (hz':z'=(h:Int)) (hlh:l≤h) (hhn:h≤n) (hys:(xs.drop (l*sz)).take ((h-l)*sz)=ys):OpW P N o E H (Is (.ro false (h-l) ys)):=by
 subst hz
 subst hz'
 refine O.sliceR (l:=(l:Int)) (h:=(h:Int)) (m:=h-l) ho hx (by simp[c0A,hy]) (by simp[c0A,hy']) ⟨by omega,by omega,by omega⟩ (by simp) (by simpa using hys) (fun h0=> ?_)
 rw[←hys,h0];simp
theorem AO.appendCut {T T2 U k bs d:Nat}{z:Value}{s x:Operand}{w:AV}{i b n m cap:Nat}{xs ys zs:List AV}{H':Value→List HE}[hs:TyS P T U k bs z](ho:o.op= .call {callee:= .builtin .append,args:= #[s,x],argTypes:= #[T,T2]})(hgd:o.guard=none)(hd:o.dst=some d)(hN:Nat.ble (d+1) Γ.N=true)
  (hz:Nat.beq z.cells.size k=true) (hk:Nat.ble 1 k=true) (hv:ev E s=some (.val (.slice (some ⟨b,0,none⟩) n cap))) (hx:ev E x=some w) (hi:H[i]? =some (.blk b U (cap*k) xs)) (hnl:n*k≤xs.length) (hsrc:SrcA P T2 k H w m ys) (hone:ys.all AV.one=true) (hn:n+m≤maxLen) (hby:(n+m)*bs≤140737488355328) (hcap:n≤cap∧cap≤maxLen)
  (hzs:xs.take (n*k)++ys=zs) (hH: ∀v',H.set i (.row v' U k (n+m) zs)=H' v')
  (next: ∀v':Value,v'.oneCell'=true→AO Γ P ops Q rest ((d,.val v')::E) (H' v')):AO Γ P ops Q (o::rest) E H:=fun R a W hs' ha=>by
 have hmem:=List.mem_of_getElem? hi
 obtain⟨us0,cs,hb,hsz,ht,hr0⟩:=hs'.ok _ hmem
 have hr:=hr0.take (n*k)
 have hown:W.ownsRow 0 U k (.slice (some ⟨b,0,none⟩) n cap) n (us0.take (n*k)):=
  ⟨by rw[hr.1,List.length_take];omega,.inr ⟨b,cap,cs,rfl,Nat.zero_le _,hb,hcap.1,hcap.2,by omega,by rw[←ht,List.take_take];congr 1;omega⟩⟩
 obtain⟨news,h1,h2⟩:=hsrc.2 R W (a.eval x) hs'.ok (ha.ev hx)
 obtain⟨v',W',hrun,hown',hgr,hblk,h1c⟩:=c0g hs (Nat.eq_of_beq_eq_true hz) (lB hk) hown (h2 (h1.all_one hone)) hn hby o.type
 unfold wpList
 rw[if_pos (by unfold Region.wanted;rw[hgd])]
 refine .inl ?_
 unfold Oper.wp
 rw[d0y ho (by rw[(ha.ev hv).val_inv];exact hrun)]
 show wpList P ops Q rest (a.put o.dst v') W'
 rw[hd]
 have hm:Mods (fun c=>(HE.blk b U (cap*k) xs).foot c) W W':=Mods.grown (Mods.refl _ _) hgr fun c hc _=>by
  have:some b=some c:=hc
  cases this;rfl
 have hR: ∀c,R c→W'.heap[c]? =W.heap[c]? :=fun c hc=>hm.block c (hs'.rlt c hc) fun hh=>(hs'.own _ hmem c hh).2 hc
 have this:=next v' h1c R (a.put (some d) v') W'
 rw[←hH,←hzs]at this
 refine this (hs'.setEntry hi hm (fun c hc=> ?_) ⟨_,hown',(hr.app h1).mono (fun _ h=>h) hR⟩) ((ha.keep hR).put (lB hN) (.val _))
 rcases hblk with hb|hb
 ·rw[HE.foot,hb]at hc
  have:some b=some c:=hc
  cases this;exact .inl rfl
 ·rw[HE.foot,hb]at hc;cases hc;exact .inr (Nat.le_refl _)
theorem O.makeSlice {T U k bs : Nat} {z : Value} {x y : Operand} {n : Nat} {kl kc : IntKind} {p q : Int}[hs:TyS P T U k bs z](ho:o.op= .makeSlice T x y)(hx:ev E x=some (.val (.int kl p)))(hy:ev E y=some (.val (.int kc q)))(hp:p=(n:Int))(hq:q=(n:Int))(hn:n*bs≤140737488355328)(hn2:n≤maxLen)(hzk:Nat.beq z.cells.size k=true):
    OpW P N o E H (b0f (fun b=> .val (.slice (some ⟨b,0,none⟩) n n)) U (n*k) (a0t n z)):=fun R a W h0 h2 h3' ha=>by
  obtain⟨i,hi,hik,hib,hz⟩:=hs.el
  subst hp
  subst hq
  unfold maxLen at hn2
  have hr:(execOp a.eval o).run P W= .ok (.value (.slice (some ⟨W.heap.size,0,none⟩) n n)) (W.alloc (.cells (madeCells z.cells (n*k)) U)):=by
    simp only[execOp,ho,(ha.ev hx).val_inv,(ha.ev hy).val_inv]
    rw [Sem.run_bind, run_make (P := P) W T U i z hs.ty hi hz kl kc n n (by omega) (Int.le_refl _) (by rw[hib];have:((n*bs:Nat):Int)≤140737488355328:=by omega
                                                                                                       rw[Int.natCast_mul,Int.mul_comm]at this;omega) (by omega)]
    simp only[Int.toNat_natCast,hik]
    rfl
  unfold Oper.wp
  rw[hr]
  refine⟨_,_,_,R,rfl,⟨W.heap.size,rfl,rfl⟩,d0K h0 U _ (n*k) (a0t n z) (size_madeCells _ _) ?_ (fun _ _=> .val _)⟩
  have e:(madeCells z.cells (n*k)).toList.map AV.val=a0t n z:=by
    unfold madeCells a0t
    rw[f0c z k (Nat.eq_of_beq_eq_true hzk) n,List.map_flatten,List.map_replicate]
  rw[←e,List.length_map,List.take_length]
  exact c0J R W _
theorem O.toBytes {S T U:Nat}{x:Operand}{s:ByteArray}{l:List UInt8}[hS:TyD P S .string][hT:TyD P T (.slice U)][hU:TyD P U (.int .u8)](ho:o.op= .convert S T x)(hx:ev E x=some (.val (.string s)))(hl:s.data.toList=l)(hm:l.length≤maxLen):
  OpW P N o E H (Is (roB l)):=fun R a W h0 h2 h3 ha=>by
 have hr:(execOp a.eval o).run P W= .ok (.value (.slice (some ⟨W.heap.size,0,none⟩) s.size (grownCap W s.size 0 U)))
   (W.drew.alloc (.cells (bytesRow s (grownCap W s.size 0 U)) U ((bytesRow s (grownCap W s.size 0 U)).size,(bytesRow s (grownCap W s.size 0 U)).size+1))):=by
  simp only[execOp,ho,(ha.ev hx).val_inv]
  rw[Sem.run_bind,run_bytes_of_string W S T U s hS.ax hT.ax hU.ax]
  rfl
 have hsz:s.size=l.length:=by rw[←hl];exact Array.length_toList.symm
 unfold Oper.wp
 rw[hr]
 have hE:Ext W (W.drew.alloc (.cells (bytesRow s (grownCap W s.size 0 U)) U ((bytesRow s (grownCap W s.size 0 U)).size,(bytesRow s (grownCap W s.size 0 U)).size+1))):=Mods.alloc (Mods.drew (Mods.refl _ _)) _
 have hnew:=heap_alloc_new W.drew (.cells (bytesRow s (grownCap W s.size 0 U)) U ((bytesRow s (grownCap W s.size 0 U)).size,(bytesRow s (grownCap W s.size 0 U)).size+1))
 refine⟨_,roB l,[],fun b=>R b∨b=W.heap.size,rfl,⟨rfl,rfl⟩,hE,fun _ h=> .inl h,?_,?_,fun _ he=>(by cases he),.nil⟩
 ·rintro b (hb|rfl)
  ·exact .inl hb
  ·refine .inr ⟨Nat.le_refl _,?_⟩
   have h9:W.drew.heap.size=W.heap.size:=rfl
   rw[h9]at hnew
   exact(Array.getElem?_eq_some_iff.1 hnew).1
 ·unfold roB
  rw[hsz]
  refine .ro false l.length (a0a l) W.heap.size 0 _ (fun j=> .int .u8 ((l.getD j 0).toNat:Int)) (.inr rfl) (fun j hj=> ?_) (fun j hj=> ?_) ?_ ?_ (fun h=>by cases h)
  ·have hj':j<l.length:=by simpa using hj
   have hj2:j<s.data.size:=by rw[←hl]at hj';simpa using hj'
   have hcell:(bytesRow s (grownCap W l.length 0 U))[j]? =some (.int .u8 ((l.getD j 0).toNat:Int)):=by
    rw[bytesRow_at s _ j hj2]
    subst hl
    simp[List.getD,Array.getElem?_eq_getElem hj2]
   have h9:W.drew.heap.size=W.heap.size:=rfl
   rw[h9]at hnew
   rw[Nat.zero_add]
   rw[hsz]at hnew
   simp only[World.cell?,hnew]
   simpa using hcell
  ·have hj':j<l.length:=by simpa using hj
   simp only[a0a,List.getElem_map,List.getD,List.getElem?_eq_getElem hj',Option.getD_some]
   exact .val _
  ·rw[←hsz];exact grownCap_ge ..
  ·exact grownCap_le_maxLen _ _ _ _ hm
end
section
variable {P:Program}{ops:Array Oper}{N:Nat}
theorem Oper.wp_put {o:Oper}{a:Act}{w:World}{K:Act→World→Prop}{Q:Exit→Act→World→Prop}(h:o.wp P a w K Q):o.wp P a w (fun A' W'=>K A' W'∧((∃u,A'=a.put o.dst u)∨A'.defers≠ [])) Q:=by
 unfold Oper.wp at h⊢
 cases hr:(execOp a.eval o).run P w with
 | ok n w'=>
  rw[hr]at h
  cases n with
  |value v=>exact⟨h,.inl ⟨v,rfl⟩⟩
  |skip=>exact⟨h,.inl ⟨_,rfl⟩⟩
  |defer d=>exact⟨h,.inr (by simp[Act.put];split<;>simp)⟩
  |enter f args=>
   refine Calls.mono h ?_
   intro e w'' he
   cases e with
   |returned v=>exact⟨he,.inl ⟨v,rfl⟩⟩
   |_=>exact he
  |row r args=>
   refine Rows.mono h ?_
   intro v w'' he
   exact⟨he,.inl ⟨v,rfl⟩⟩
  |_=>exact h
 |halt x w'=>
  rw[hr]at h
  cases x<;>exact h
theorem b0c {E:Env}{d:Nat}{v:AV}: ∀{ts:List Nat},d∉ts→rst ((d,v)::E) ts=rst E ts
 | [],_=>rfl
 | t::r,h=>by
  simp only[List.mem_cons,not_or]at h
  have hb:Nat.beq d t=false:=by
   cases hb:Nat.beq d t with
   |false=>rfl
   |true=>exact absurd (Nat.eq_of_beq_eq_true hb) h.1
  have hl:a0q ((d,v)::E) t=a0q E t:=by simp only[a0q,hb];rfl
  rw[rst,rst,hl,b0c h.2]
theorem a0J {E:Env}{d t:Nat}{v:AV}(h:d≠t):a0q ((d,v)::E) t=a0q E t:=by
 have hb:Nat.beq d t=false:=by
  cases hb:Nat.beq d t with
  |false=>rfl
  |true=>exact absurd (Nat.eq_of_beq_eq_true hb) h
 simp only[a0q,hb];rfl
theorem b0o {E:Env}{d:Nat}{v:AV}:a0q ((d,v)::E) d=some v:=by simp[a0q]
def QS (Γ:Cx)(d:Option Nat)(S:AV→List HE→Prop):Exit→Act→World→Prop:=fun x a W=>
 match x with
 | .normal=>a.defers= []∧ ∃v H' R',S v H'∧RelS Γ R' H' W∧ ∀t,d=some t→RelV R' W v (a.eval (.tmp t))
 |_=>False
def a0w:Option Nat→AV→Env→Env
 |some d,v,E=>(d,v)::E
 |none,_,E=>E
def AM (P:Program)(N:Nat)(ops:Array Oper)(Hs:List HE)(K:Env→List HE→Prop):List (Nat×Bool)→Env→List HE→Prop
 | [],E,H=>K E H
 |(i,true)::r,E,H=> ∃o,ops[i]? =some o∧ ∀w0 R0,AO ⟨w0,a0z H,R0,N⟩ P ops (QS ⟨w0,a0z H,R0,N⟩ o.dst (fun v H'=>AM P N ops Hs K r (a0w o.dst v E) H')) [o] (rst E (o.looksAt ops)) H
 |(i,false)::r,E,H=> ∃o d v,ops[i]? =some o∧o.dst=some d∧d<N∧OpF P N ops o (rst E (o.looksAt ops)) Hs (Is v)∧AM P N ops Hs K r ((d,v)::E) H
def e0h (ops:Array Oper)(an:List (List Nat))(i:Nat)(b:Bool)(j:Nat)(c:Bool):Bool:=
 match ops[i]?,ops[j]?with
 | some oi,some oj=>
  let waits:=oj.after.any fun e=>Region.binds .any e&&e.on==i
  let anc:=(an.getD j []).contains i
  (i !=j)&&(!b||anc)&&
  (match oj.dst with
   |some d=>if c then(!((oi.looksAt ops).contains d||oi.dst==some d))||anc else !(oi.looksAt ops).contains d&&oi.dst !=some d
   |none=>c)&&
  (match oi.dst with
   |some d=> !(oj.looksAt ops).contains d||waits
   |none=>true)
 |_,_=>false
def a0W (ops:Array Oper)(an:List (List Nat)):List (Nat×Bool)→Bool
 | []=>true
 |(i,b)::r=>(b||(match ops[i]?with|some o=>(match o.dst with|some d=> !(o.looksAt ops).contains d|none=>false)|none=>false))&&r.all (fun q=>e0h ops an i b q.1 q.2)&&a0W ops an r
def t0A (ops:Array Oper)(ord:List (Nat×Bool)):Bool:=
 ((List.range ops.size).all fun i=>(ord.map Prod.fst).contains i)&&(ord.all fun q=>decide (q.1<ops.size))&&
 ((List.range ops.size).all fun i=>(ops[i]?).all fun o=>o.after.all fun e=> !Region.binds .any e||decide (e.on<i))&&a0W ops (c0G ops.toList []) ord
theorem a0l {an:List (List Nat)}: ∀{pre r:List (Nat×Bool)},a0W ops an (pre++r)=true→a0W ops an r=true∧ ∀q∈pre,∀s∈r,e0h ops an q.1 q.2 s.1 s.2=true
 | [],r,h=>⟨h,fun q hq=>by cases hq⟩
 |(i,b)::pre,r,h=>by
  rw[cA,a0W]at h
  simp only[Bool.and_eq_true,List.all_eq_true]at h
  obtain⟨h1,h2⟩:=a0l h.2
  refine⟨h1,fun q hq s hs=> ?_⟩
  rcases List.mem_cons.1 hq with rfl|hq
  ·exact h.1.2 s (List.mem_append_right _ hs)
  ·exact h2 q hq s hs
structure PairOk (ops:Array Oper) (an:List (List Nat)) (i:Nat) (b:Bool) (oi:Oper) (j:Nat) (c:Bool) (oj:Oper):Prop where
 ne:i≠j
 main:b=true→i∈an.getD j []
 flt:c=false→ ∃d,oj.dst=some d∧d∉oi.looksAt ops∧oi.dst≠some d
 mn:c=true→ ∀d,oj.dst=some d→(d∈oi.looksAt ops∨oi.dst=some d)→i∈an.getD j []
 reads: ∀d,oi.dst=some d→d∈oj.looksAt ops→ ∃e∈oj.after,Region.binds .any e=true∧e.on=i
theorem b0B {an:List (List Nat)}{i j:Nat}{b c:Bool}{oi oj:Oper}(h:e0h ops an i b j c=true)(hi:ops[i]? =some oi)(hj:ops[j]? =some oj):PairOk ops an i b oi j c oj:=by
 unfold e0h at h
 rw[hi,hj]at h
 simp only[Bool.and_eq_true,bne_iff_ne,ne_eq]at h
 obtain⟨⟨⟨h1,h2⟩,h3⟩,h4⟩:=h
 refine⟨h1,fun hb=> ?_,fun hc=> ?_,fun hc d hd hm=> ?_,fun d hd hm=> ?_⟩
 ·subst hb;simpa using h2
 ·subst hc
  cases hd:oj.dst with
  |none=>rw[hd]at h3;cases h3
  |some d=>
   rw[hd]at h3
   simp at h3
   exact⟨d,rfl,h3.1,h3.2⟩
 ·subst hc
  rw[hd]at h3
  simp at h3
  rcases h3 with h3|h3
  ·rcases hm with hm|hm
   ·exact absurd hm h3.1
   ·exact absurd hm h3.2
  ·exact h3
 ·rw[hd]at h4
  simp only[Bool.or_eq_true,Bool.not_eq_true',List.contains_eq_mem,decide_eq_false_iff_not]at h4
  rcases h4 with h4|h4
  ·exact absurd hm h4
  ·obtain⟨x,hx,hx2⟩:=f0U h4
   simp only[Bool.and_eq_true,beq_iff_eq]at hx2
   exact⟨x,hx,hx2.1,hx2.2⟩
theorem RelS.part {Γ:Cx}{R R':Nat→Prop}{Hm Hs H':List HE}{W W':World}(hs0:RelS Γ R (Hm++Hs) W)(hs':RelS ⟨W,a0z Hm,R,N⟩ R' H' W'):RelS Γ R' (H'++Hs) W'∧ ∀b,R b→W'.heap[b]? =W.heap[b]? :=by
 have hS0: ∀b,a0z Hm b→Γ.w0.heap.size≤b∨Γ.S b:=fun b ⟨e,he,hb⟩=>(hs0.own e (List.mem_append_left _ he) b hb).1
 have hnR: ∀b,a0z Hm b→ ¬R b:=fun b ⟨e,he,hb⟩=>(hs0.own e (List.mem_append_left _ he) b hb).2
 have h1lt: ∀e∈Hs,∀b,e.foot b→b<W.heap.size:=fun e he b hb=>HE.ok_lt (hs0.ok e (List.mem_append_right _ he)) hb
 have h10: ∀e∈Hs,∀b,e.foot b→ ¬a0z Hm b:=fun e he b hb ⟨f,hf,hb'⟩=>(List.pairwise_append.1 hs0.disj).2.2 f hf e he b hb' hb
 have hR: ∀b,R b→W'.heap[b]? =W.heap[b]? :=fun b hb=>hs'.mods.block b (hs0.rlt b hb) fun hh=>hnR b hh hb
 refine⟨⟨Mods.then hs0.mods hs'.mods fun b hb hh=> ?_,hs'.rlt,fun b hb=>hs'.rsub b (hs0.rsub b hb),fun b hb=> ?_,?_,?_,?_⟩,hR⟩
 ·rcases hS0 b hh with h|h
  ·omega
  ·exact h
 ·rcases hs'.rnew b hb with h|h|h
  ·exact hs0.rnew b h
  ·exact .inr (.inl (Nat.le_trans hs0.mods.size h))
  ·exact .inr (hS0 b h)
 ·intro e he
  rcases List.mem_append.1 he with he|he
  ·exact hs'.ok e he
  ·exact HE.ok_mono hs'.rsub hR hs'.mods.size (fun b hb=>hs'.mods.block b (h1lt e he b hb) (h10 e he b hb)) (hs0.ok e (List.mem_append_right _ he))
 ·intro e he b hb
  rcases List.mem_append.1 he with he|he
  ·obtain⟨h2,h3⟩:=hs'.own e he b hb
   refine⟨?_,h3⟩
   rcases h2 with h2|h2
   ·exact .inl (Nat.le_trans hs0.mods.size h2)
   ·exact hS0 b h2
  ·refine⟨(hs0.own e (List.mem_append_right _ he) b hb).1,fun hr=> ?_⟩
   rcases hs'.rnew b hr with h|h|h
   ·exact(hs0.own e (List.mem_append_right _ he) b hb).2 h
   ·have h5:=h1lt e he b hb
    exact absurd h (by simpa using h5)
   ·exact h10 e he b hb h
 ·rw[List.pairwise_append]
  refine⟨hs'.disj,(List.pairwise_append.1 hs0.disj).2.1,fun e he f hf b hb hb'=> ?_⟩
  rcases(hs'.own e he b hb).1 with h|h
  ·have h5:=h1lt f hf b hb'
   exact absurd h (by simpa using h5)
  ·exact h10 f hf b hb' h
structure MI (P:Program) (Γ:Cx) (ops:Array Oper) (Hs:List HE) (K:Env→List HE→Prop) (ord:List (Nat×Bool)) (listed:Array Bool) (A:Act) (W:World) (pre ms:List (Nat×Bool)) (Pd:List Nat) (E:Env) (H:List HE) (R:Nat→Prop):Prop where
 size:listed.size=ops.size
 closed:c0q ops listed
 part: ∀i,i<ops.size→(listed.getD i false=false↔i∈Pd∨i∈ms.map Prod.fst)
 ord:ord=pre++ms
 pdp: ∀i∈Pd,(i,false)∈pre
 am:AM P Γ.N ops Hs K ms E H
 pend: ∀i∈Pd,∃o d v,ops[i]? =some o∧o.dst=some d∧d<Γ.N∧a0q E d=some v∧OpF P Γ.N ops o (rst E (o.looksAt ops)) Hs (Is v)
 rels:RelS Γ R (H++Hs) W
 defers:A.defers= []
 tmps:A.tmps.size=Γ.N
 act: ∀t v,a0q E t=some v→(∀i∈Pd,∀o,ops[i]? =some o→o.dst≠some t)→RelV R W v (A.eval (.tmp t))
variable {Γ:Cx}{Hs:List HE}{K:Env→List HE→Prop}{ord:List (Nat×Bool)}
theorem MI.absorb {listed:Array Bool}{A:Act}{W:World}{R:Nat→Prop}(hok:a0W ops (c0G ops.toList []) ord=true): ∀(ms pre:List (Nat×Bool)) (Pd:List Nat) (E:Env) (H:List HE),MI P Γ ops Hs K ord listed A W pre ms Pd E H R→
  ∃pre' ms' Pd' E',MI P Γ ops Hs K ord listed A W pre' ms' Pd' E' H R∧(ms'= []∨ ∃m r,ms'=(m,true)::r)
 | [],pre,Pd,E,H,h=>⟨pre,[],Pd,E,h,.inl rfl⟩
 |(m,true)::r,pre,Pd,E,H,h=>⟨pre,_,Pd,E,h,.inr ⟨m,r,rfl⟩⟩
 | (j,false)::r,pre,Pd,E,H,h=>by
  obtain⟨o,d,v,ho,hd,hN,hop,ham⟩:=h.am
  have hord:=h.ord
  have hq:=a0l (pre:=pre) (r:=(j,false)::r) (by rw[←hord];exact hok)
  have hself:d∉o.looksAt ops:=by
   have:=hq.1
   rw[a0W]at this
   simp only[Bool.and_eq_true,ho,hd,Bool.false_or]at this
   simpa using this.1.1
  have hp: ∀i∈Pd,∀oi,ops[i]? =some oi→d∉oi.looksAt ops∧oi.dst≠some d:=fun i hi oi hoi=>by
   have:=b0B (hq.2 _ (h.pdp i hi) (j,false) (List.mem_cons_self ..)) hoi ho
   obtain⟨d',h1,h2,h3⟩:=this.flt rfl
   rw[hd]at h1
   cases h1
   exact⟨h2,h3⟩
  refine MI.absorb hok r (pre++[(j,false)]) (j::Pd) ((d,v)::E) H ⟨h.size,h.closed,fun i hi=> ?_,by rw[hord];simp,fun i hi=> ?_,ham,fun i hi=> ?_,h.rels,h.defers,h.tmps,fun t x ht hpd=> ?_⟩
  ·rw[h.part i hi]
   simp only[List.map_cons,List.mem_cons]
   constructor
   ·rintro(h|h|h)
    ·exact .inl (.inr h)
    ·exact .inl (.inl h)
    ·exact .inr h
   ·rintro((h|h)|h)
    ·exact .inr (.inl h)
    ·exact .inl h
    ·exact .inr (.inr h)
  ·rcases List.mem_cons.1 hi with rfl|hi
   ·simp
   ·exact List.mem_append_left _ (h.pdp i hi)
  ·rcases List.mem_cons.1 hi with rfl|hi
   ·exact⟨o,d,v,ho,hd,hN,b0o,by rw[b0c hself];exact hop⟩
   ·obtain⟨oi,di,vi,h1,h2,h3,h4,h5⟩:=h.pend i hi
    obtain⟨h6,h7⟩:=hp i hi oi h1
    refine⟨oi,di,vi,h1,h2,h3,?_,by rw[b0c h6];exact h5⟩
    rw[a0J (fun e=>h7 (by rw[h2,e]))];exact h4
  ·have hne:d≠t:=fun e=>hpd j (List.mem_cons_self ..) o ho (by rw[hd,e])
   rw[a0J hne]at ht
   exact h.act t x ht fun i hi=>hpd i (List.mem_cons_of_mem _ hi)
theorem MI.reads {listed:Array Bool}{A:Act}{W:World}{R:Nat→Prop}{pre ms:List (Nat×Bool)}{Pd:List Nat}{E:Env}{H:List HE}(hok:a0W ops (c0G ops.toList []) ord=true)(h:MI P Γ ops Hs K ord listed A W pre ms Pd E H R)
  {i:Nat} {b:Bool} {o:Oper} (ho:ops[i]? =some o) (hdeps: ∀e∈o.after,Region.binds .any e=true→listed.getD e.on false=true) (hi:(i,b)∈pre∧i∈Pd∧b=false∨ ∃r,ms=(i,b)::r):RelA Γ.N R W (rst E (o.looksAt ops)) A:=by
 refine⟨h.defers,h.tmps,fun t v ht=> ?_⟩
 obtain⟨htl,ht⟩:=c0y ht
 refine h.act t v ht fun k hk ok hok' hdk=> ?_
 have hkp:=h.pdp k hk
 have hkf:listed.getD k false=false:=(h.part k (Array.getElem?_eq_some_iff.1 hok').1).2 (.inl hk)
 have direct:e0h ops (c0G ops.toList []) k false i b=true→False:=fun hp=>by
  obtain⟨e,he,hb,hon⟩:=(b0B hp hok' ho).reads t hdk htl
  have:=hdeps e he hb
  rw[hon,hkf]at this;cases this
 rcases hi with⟨hip,hiP,rfl⟩|⟨r,hms⟩
 ·
  obtain⟨p1,p2,hp12⟩:=List.append_of_mem hkp
  have hord:=h.ord
  rw[hp12,List.append_assoc]at hord
  rw[hp12]at hip
  rcases List.mem_append.1 hip with hip|hip
  ·
   have hq:=a0l (pre:=p1) (by rw[←hord];exact hok)
   have:=b0B (hq.2 _ hip (k,false) (List.mem_cons_self ..)) ho hok'
   obtain⟨d',h1,h2, -⟩:=this.flt rfl
   rw[hdk]at h1;cases h1
   exact h2 htl
  ·rcases List.mem_cons.1 hip with he|hip
   ·cases he
    have hq:=(a0l (pre:=p1) (by rw[←hord];exact hok)).1
    rw[cA,a0W]at hq
    simp only[Bool.and_eq_true]at hq
    obtain rfl:o=ok:=by rw[ho]at hok';exact Option.some.inj hok'
    have:=hq.1.1
    rw[ho]at this
    simp only[hdk,Bool.false_or]at this
    simp at this
    exact this htl
   ·rw[show p1++((k,false)::p2++ms)=(p1++[(k,false)])++(p2++ms) by simp]at hord
    have hq:=a0l (pre:=p1++[(k,false)]) (by rw[←hord];exact hok)
    exact direct (hq.2 (k,false) (by simp) (i,false) (List.mem_append_left _ hip))
 ·have hq:=a0l (pre:=pre) (r:=ms) (by rw[←h.ord];exact hok)
  exact direct (hq.2 _ hkp (i,b) (by rw[hms];exact List.mem_cons_self ..))
def c0F (E:Env)(H Hm Hs:List HE):Prop:=H.Perm (Hm++Hs)
theorem a0c {E:Env}{H:List HE}:c0F E H [] H:=List.Perm.refl _
theorem b0b (i:Nat){E:Env}{H Hm Hs:List HE}{e:HE}(h:H[i]? =some e)(hr:c0F E (H.eraseIdx i) Hm Hs):c0F E H (e::Hm) Hs:=(d0L h).trans (List.Perm.cons e hr)
theorem c0Y (t i:Nat){E:Env}{H Hm Hs:List HE}{v:Value}{T sz n:Nat}{xs:List AV}(hl:a0q E t=some (.val v))(h:H[i]? =some (.row v T sz n xs))(hr:c0F E (H.eraseIdx i) Hm Hs):c0F E H (.row v T sz n xs::Hm) Hs:=b0b i h hr
theorem a0h (t i:Nat){E:Env}{H Hm Hs:List HE}{b o T room:Nat}{xs:List AV}(hl:a0q E t=some (.val (.pointer (some ⟨b,o,none⟩))))(h:H[i]? =some (.blk b T room xs))(hr:c0F E (H.eraseIdx i) Hm Hs):c0F E H (.blk b T room xs::Hm) Hs:=b0b i h hr
theorem AW.regionM {Q:Exit→Act→World→Prop}{E:Env}{H:List HE}{id:Nat}{l:List Oper}(ord:List (Nat×Bool)){Hm Hs:List HE}(hm:P.follows .mixedOrders=true)(hok:t0A l.toArray ord=true)(hH:c0F E H Hm Hs)
  (h:AM P Γ.N l.toArray Hs (fun E' H'=>AQ Γ Q .normal E' (H'++Hs)) ord E Hm):AW Γ P Q (.region id l.toArray true) E H:=fun R a W hs0 ha0=>by
 obtain⟨ops,hops⟩: ∃ops,ops=l.toArray:=⟨_,rfl⟩
 rw[←hops]at h hok
 simp only[t0A,Bool.and_eq_true,List.all_eq_true,List.mem_range]at hok
 obtain⟨⟨⟨hall,hlt⟩,hbk⟩,hpairs⟩:=hok
 have hback: ∀i o,ops[i]? =some o→ ∀e∈o.after,Region.binds .any e=true→e.on<i:=fun i o ho e he hb=>by
  have hi:i<ops.size:=(Array.getElem?_eq_some_iff.1 ho).1
  have:=hbk i hi
  rw[ho]at this
  simp only[Option.all_some]at this
  have:=Array.all_eq_true_iff_forall_mem.1 this e he
  simpa[hb]using this
 have main: ∀(fuel:Nat) (listed:Array Bool) (A:Act) (W:World) (pre ms:List (Nat×Bool)) (Pd:List Nat) (E:Env) (H:List HE) (R:Nat→Prop),fuel=listed.toList.count false→
   MI P Γ ops Hs (fun E' H'=>AQ Γ Q .normal E' (H'++Hs)) ord listed A W pre ms Pd E H R→(ms= []∨ ∃m r,ms=(m,true)::r)→wpAny P .any ops Q fuel listed A W:=by
  intro fuel
  induction fuel with
  | zero=>
   intro listed A W pre ms Pd E H R hc hI hhd
   have hlist: ∀i,i<ops.size→listed.getD i false=true:=by
    intro i hi
    have hi':i<listed.size:=by rw[hI.size];exact hi
    cases hb:listed.getD i false with
    |true=>rfl
    | false=>
     exfalso
     have hm:false∈listed.toList:=by
      rw[←hb];simp[Array.getD,hi']
     have:=List.count_pos_iff.2 hm
     omega
   have hin: ∀i b,(i,b)∈ord→i<ops.size:=fun i b hib=>by have:=hlt _ hib;simpa using this
   have hms:ms= []:=by
    rcases hhd with h|⟨m,r,h⟩
    ·exact h
    ·have h1:=hin m true (by rw[hI.ord,h];simp)
     have:=(hI.part m h1).2 (.inr (by rw[h];simp))
     rw[hlist m h1]at this;cases this
   have hPd:Pd= []:=by
    rw[List.eq_nil_iff_forall_not_mem]
    intro i hi
    have h1:=hin i false (by rw[hI.ord];exact List.mem_append_left _ (hI.pdp i hi))
    have:=(hI.part i h1).2 (.inl hi)
    rw[hlist i h1]at this;cases this
   subst hms
   subst hPd
   refine⟨?_,hI.am R A W hI.rels ⟨hI.defers,hI.tmps,fun t v ht=>hI.act t v ht fun i hi=>(by cases hi)⟩⟩
   rw[List.eq_nil_iff_forall_not_mem]
   intro i hi
   obtain⟨h0,o,ho,_⟩:=mem_ready.1 hi
   have hi':i<ops.size:=(Array.getElem?_eq_some_iff.1 ho).1
   have:=hlist i hi'
   rw[←b0p (by rw[hI.size];exact hi')]at this
   rw[this]at h0;cases h0
  | succ fuel ih=>
   intro listed A W pre ms Pd E H R hc hI hhd
   have hne: ∃i,i∈Region.ready .any ops listed:=by
    have hex: ∃i,i<ops.size∧listed.getD i false=false:=by
     have hpos:0<listed.toList.count false:=by omega
     obtain⟨i,hi,hf⟩:=List.getElem_of_mem (List.count_pos_iff.1 hpos)
     have hi':i<listed.size:=by simpa using hi
     exact⟨i,by rw[←hI.size];exact hi',by simpa[Array.getD,hi']using hf⟩
    obtain⟨i,⟨hi,hf⟩,hmin⟩: ∃i,(i<ops.size∧listed.getD i false=false)∧ ∀j,j<i→ ¬(j<ops.size∧listed.getD j false=false):=by
     obtain⟨i,h⟩:=hex
     exact p0r ⟨i,h⟩
    have hio:ops[i]? =some ops[i]:=by simp[hi]
    refine⟨i,mem_ready.2 ⟨by rw[b0p (by rw[hI.size];exact hi)];exact hf,_,hio,fun e he hb=> ?_⟩⟩
    have:=hback i _ hio e he hb
    cases hb2:listed.getD e.on false with
    |true=>rfl
    |false=>exact absurd ⟨by omega,hb2⟩ (hmin e.on this)
   refine⟨fun e=>(by obtain⟨i,hi⟩:=hne;rw[e]at hi;cases hi),fun i hi=> ?_⟩
   obtain⟨h0,o,ho,hdeps⟩:=mem_ready.1 hi
   have hio:i<ops.size:=(Array.getElem?_eq_some_iff.1 ho).1
   have hf:listed.getD i false=false:=by rw[←b0p (by rw[hI.size];exact hio)];exact h0
   have hil:i<listed.size:=by rw[hI.size];exact hio
   have hanc: ∀j,j∈(c0G ops.toList []).getD i []→listed.getD j false=true:=fun j hj=>d0j hI.closed hback i o ho hdeps j hj
   have hcl:=c0o hI.closed ho hil hdeps
   have hcnt:fuel=(listed.setIfInBounds i true).toList.count false:=by
    have hcs:=a0Z listed.toList i (by simpa using hil) (by simpa[Array.getD,hil]using hf)
    simp only[Array.toList_setIfInBounds]
    omega
   have hgd: ∀k,k≠i→(listed.setIfInBounds i true).getD k false=listed.getD k false:=fun k hk=>getD_set_ne false (Ne.symm hk)
   have hgi:(listed.setIfInBounds i true).getD i false=true:=by simp[Array.getD,hil]
   have hsz:(listed.setIfInBounds i true).size=ops.size:=by simpa using hI.size
   rcases(hI.part i hio).1 hf with hPd|hms
   ·
    obtain⟨o',d,v,ho',hd,hN,hlk,hop⟩:=hI.pend i hPd
    obtain rfl:o=o':=by rw[ho]at ho';exact Option.some.inj ho'
    have hA:=hI.reads hpairs ho hdeps (b:=false) (.inl ⟨hI.pdp i hPd,hPd,rfl⟩)
    have hs:=hop R A W hI.rels.rlt (fun e he=>hI.rels.ok e (List.mem_append_right _ he)) (fun e he b hb=>(hI.rels.own e (List.mem_append_right _ he) b hb).2) hA
    have hnext: ∀u W',(∃v' Hn R',Is v v' Hn∧Post1 R W v' Hn u W' R')→wpAny P .any ops Q fuel (listed.setIfInBounds i true) (A.put o.dst u) W':=by
     rintro u W' ⟨v',Hn,R',⟨rfl,rfl⟩,hp⟩
     have hnm:i∉ms.map Prod.fst:=fun hm=>by
      obtain⟨⟨j,c⟩,hq,hji⟩:=List.mem_map.1 hm
      have hq2:=(a0l (pre:=pre) (r:=ms) (by rw[←hI.ord];exact hpairs)).2 _ (hI.pdp i hPd) _ hq
      simp only at hji
      subst hji
      exact(b0B hq2 ho ho).ne rfl
     refine ih _ _ _ pre ms (Pd.filter (· ≠i)) E H R' hcnt ⟨hsz,hcl,fun k hk=> ?_,hI.ord,fun k hk=>hI.pdp k (List.mem_filter.1 hk).1,hI.am,fun k hk=>hI.pend k (List.mem_filter.1 hk).1,by simpa using hI.rels.step hp,?_,?_,fun t x ht hpd=> ?_⟩ hhd
     ·by_cases hki:k=i
      ·subst hki
       rw[hgi]
       simp[hnm]
      ·rw[hgd k hki,hI.part k hk]
       simp[hki]
     ·rw[hd];exact hI.defers
     ·rw[hd];simp[Act.put,hI.tmps]
     ·rw[hd]
      by_cases hdt:d=t
      ·subst hdt
       rw[hlk]at ht
       cases ht
       rw[a0G (by rw[hI.tmps];exact hN)];exact hp.val
      ·rw[a0j hdt]
       refine(hI.act t x ht fun k hk ok hok hdk=> ?_).mono hp.sub (c0R hp.ext hI.rels.rlt)
       by_cases hki:k=i
       ·subst hki
        rw[ho]at hok
        cases hok
        rw[hd]at hdk
        cases hdk
        exact hdt rfl
       ·exact hpd k (List.mem_filter.2 ⟨hk,by simpa using hki⟩) ok hok hdk
    unfold wpOp
    rw[ho]
    unfold e0L at hs
    show if Region.wanted o (yielded ops A.tmps)=true then _ else _
    split
    ·rename_i hw
     rw[if_pos hw]at hs
     refine .inl (Oper.wp_mono ?_ (b0v hs))
     rintro A' W' ⟨u,rfl,hp⟩
     exact hnext u W' hp
    ·rename_i hw
     rw[if_neg hw]at hs
     exact hnext _ _ hs
   ·
    rcases hhd with rfl|⟨m,r,rfl⟩
    ·cases hms
    have hmlt:m<ops.size:=by have:=hlt (m,true) (by rw[hI.ord];simp);simpa using this
    have hmf:listed.getD m false=false:=(hI.part m hmlt).2 (.inr (by simp))
    have him:i=m:=by
     rcases List.mem_cons.1 hms with h|h
     ·exact h
     ·exfalso
      obtain⟨⟨j,c⟩,hq,hji⟩:=List.mem_map.1 h
      simp only at hji
      subst hji
      have h9:=(a0l (pre:=pre++[(m,true)]) (r:=r) (by have:=hI.ord;rw[List.append_assoc,List.singleton_append,←this];exact hpairs)).2 (m,true) (by simp) _ hq
      have hom:ops[m]? =some ops[m]:=by simp[hmlt]
      have:=hanc m ((b0B h9 hom ho).main rfl)
      rw[hmf]at this;cases this
    subst him
    obtain⟨o',ho',hAO⟩:=hI.am
    obtain rfl:o=o':=by rw[ho]at ho';exact Option.some.inj ho'
    have hA:=hI.reads hpairs ho hdeps (b:=true) (.inr ⟨r,rfl⟩)
    have hs:=hAO W R R A W ⟨Mods.refl _ _,hI.rels.rlt,fun _ h=>h,fun _ h=> .inl h,fun e he=>hI.rels.ok e (List.mem_append_left _ he),fun e he b hb=>⟨.inr ⟨e,he,hb⟩,(hI.rels.own e (List.mem_append_left _ he) b hb).2⟩,(List.pairwise_append.1 hI.rels.disj).1⟩ hA
    have hnext: ∀u W',QS ⟨W,a0z H,R,Γ.N⟩ o.dst (fun v H'=>AM P Γ.N ops Hs (fun E' H'=>AQ Γ Q .normal E' (H'++Hs)) r (a0w o.dst v E) H') .normal (A.put o.dst u) W'→wpAny P .any ops Q fuel (listed.setIfInBounds i true) (A.put o.dst u) W':=by
     rintro u W' ⟨hdf,v,H',R',ham,hsr,hvr⟩
     obtain⟨hrel,hRW⟩:=RelS.part hI.rels hsr
     have hpd: ∀k∈Pd,∀ok,ops[k]? =some ok→ ∀d,o.dst=some d→d∉ok.looksAt ops∧ok.dst≠some d:=fun k hk ok hok d hd=>by
      have h9:=(a0l (pre:=pre) (r:=(i,true)::r) (by rw[←hI.ord];exact hpairs)).2 _ (hI.pdp k hk) (i,true) (List.mem_cons_self ..)
      have hkf:listed.getD k false=false:=(hI.part k (Array.getElem?_eq_some_iff.1 hok).1).2 (.inl hk)
      have hno:k∉(c0G ops.toList []).getD i []:=fun hm=>by
       have:=hanc k hm
       rw[hkf]at this;cases this
      exact⟨fun hm=>hno ((b0B h9 hok ho).mn rfl d hd (.inl hm)),fun he=>hno ((b0B h9 hok ho).mn rfl d hd (.inr he))⟩
     have hnr:i∉r.map Prod.fst:=fun hm=>by
      obtain⟨⟨j,c⟩,hq,hji⟩:=List.mem_map.1 hm
      have h9:=(a0l (pre:=pre++[(i,true)]) (r:=r) (by have:=hI.ord;rw[List.append_assoc,List.singleton_append,←this];exact hpairs)).2 (i,true) (by simp) _ hq
      simp only at hji
      subst hji
      exact(b0B h9 ho ho).ne rfl
     have hnp:i∉Pd:=fun hk=>by
      have h9:=(a0l (pre:=pre) (r:=(i,true)::r) (by rw[←hI.ord];exact hpairs)).2 _ (hI.pdp i hk) (i,true) (List.mem_cons_self ..)
      exact(b0B h9 ho ho).ne rfl
     have hI':MI P Γ ops Hs (fun E' H'=>AQ Γ Q .normal E' (H'++Hs)) ord (listed.setIfInBounds i true) (A.put o.dst u) W' (pre++[(i,true)]) r Pd (a0w o.dst v E) H' R':=by
      refine⟨hsz,hcl,fun k hk=> ?_,by rw[hI.ord];simp,fun k hk=>List.mem_append_left _ (hI.pdp k hk),ham,fun k hk=> ?_,hrel,hdf,?_,fun t x ht hp=> ?_⟩
      ·by_cases hki:k=i
       ·subst hki
        rw[hgi]
        simp[hnr,hnp]
       ·rw[hgd k hki,hI.part k hk]
        simp[hki]
      ·obtain⟨ok,dk,vk,h1,h2,h3,h4,h5⟩:=hI.pend k hk
       refine⟨ok,dk,vk,h1,h2,h3,?_,?_⟩
       ·cases hd:o.dst with
        |none=>exact h4
        |some d=>rw[a0w,a0J (fun e=>(hpd k hk ok h1 d hd).2 (by rw[h2,e]))];exact h4
       ·cases hd:o.dst with
        |none=>exact h5
        |some d=>rw[a0w,b0c (hpd k hk ok h1 d hd).1];exact h5
      ·cases hd:o.dst<;>simp[Act.put,hI.tmps]
      ·cases hd:o.dst with
       |none=>
        rw[hd]at ht
        exact(hI.act t x ht hp).mono hsr.rsub hRW
       | some d=>
        rw[hd,a0w]at ht
        by_cases hdt:d=t
        ·subst hdt
         rw[b0o]at ht
         cases ht
         have:=hvr d hd
         rwa [hd]at this
        ·rw[a0J hdt]at ht
         rw[a0j hdt]
         exact(hI.act t x ht hp).mono hsr.rsub hRW
     obtain⟨pre',ms',Pd',E',hI2,hh2⟩:=hI'.absorb hpairs
     exact ih _ _ _ pre' ms' Pd' E' H' R' hcnt hI2 hh2
    unfold wpOp
    rw[ho]
    unfold wpList at hs
    show if Region.wanted o (yielded ops A.tmps)=true then _ else _
    split
    ·rename_i hw
     rw[if_pos hw]at hs
     refine .inl ?_
     rcases hs with hs|⟨-,a',w',hl⟩
     ·have hs2:o.wp P A W (wpList P ops (QS ⟨W,a0z H,R,Γ.N⟩ o.dst (fun v H'=>AM P Γ.N ops Hs (fun E' H'=>AQ Γ Q .normal E' (H'++Hs)) r (a0w o.dst v E) H')) []) NoQ:=by
       unfold Oper.wp at hs⊢
       revert hs
       cases(execOp A.eval o).run P W with
       | ok n w'=>
        cases n with
        |enter f args=>
         intro hs
         refine Calls.mono hs ?_
         intro e w'' he
         cases e with
         |returned v=>exact he
         |outgrown=>obtain⟨a',w',hl⟩:=he;exact hl.elim
         |_=>exact he.elim
        |_=>exact fun h=>h
       |halt x w'=>cases x<;>exact fun h=>h
      refine Oper.wp_mono ?_ (b0v (Oper.wp_put hs2))
      rintro A' W' ⟨hq,hA'⟩
      have hq':QS ⟨W,a0z H,R,Γ.N⟩ o.dst (fun v H'=>AM P Γ.N ops Hs (fun E' H'=>AQ Γ Q .normal E' (H'++Hs)) r (a0w o.dst v E) H') .normal A' W':=hq
      rcases hA' with⟨u,rfl⟩|hnd
      ·exact hnext u W' hq'
      ·exact absurd hq'.1 hnd
     ·exact hl.elim
    ·rename_i hw
     rw[if_neg hw]at hs
     exact hnext _ _ hs
 have hs:RelS Γ R (Hm++Hs) W.drew:=(RelS.perm ⟨hs0.mods.drew,hs0.rlt,hs0.rsub,hs0.rnew,fun e he=>HE.ok_mono (W:=W) (W':=W.drew) (fun _ h=>h) (fun _ _=>rfl) (Nat.le_refl _) (fun _ _=>rfl) (hs0.ok e he),hs0.own,hs0.disj⟩ hH.symm)
 have ha:RelA Γ.N R W.drew E a:=ha0.mono (fun _ h=>h) (fun _ _=>rfl)
 refine wp_region_any hm ?_
 rw[←hops]
 have hI:MI P Γ ops Hs (fun E' H'=>AQ Γ Q .normal E' (H'++Hs)) ord (Array.replicate ops.size false) a W.drew [] ord [] E Hm R:=by
  refine⟨by simp,fun i o hl=> ?_,fun i hi=> ?_,rfl,fun i hi=>(by cases hi),h,fun i hi=>(by cases hi),hs,ha.defers,ha.size,fun t v ht _=>ha.slots t v ht⟩
  ·exfalso
   by_cases h:i<ops.size<;>simp[Array.getD,h]at hl
  ·have:=hall i hi
   simp only[List.contains_eq_mem,cQ]at this
   simp[Array.getD,hi,this]
 obtain⟨pre',ms',Pd',E',hI2,hh2⟩:=hI.absorb hpairs
 exact main _ _ _ _ pre' ms' Pd' E' Hm R (by simp) hI2 hh2
theorem AM.op {i d:Nat}{r:List (Nat×Bool)}{E:Env}{H:List HE}{o:Oper}{v:AV}(ho:ops[i]? =some o)(h:OpW P N o (rst E (o.looksAt ops)) Hs (Is v))(hw:a0f ops (rst E (o.looksAt ops)) o=some true)(hd:o.dst=some d)(hN:Nat.ble (d+1) N=true)(k:AM P N ops Hs K r ((d,v)::E) H):
  AM P N ops Hs K ((i,false)::r) E H:=⟨o,d,v,ho,hd,lB hN,.run hw h,k⟩
theorem zV {i d:Nat}{r:List (Nat×Bool)}{E:Env}{H:List HE}{o:Oper}{v:AV}(k:AM P N ops Hs K r ((d,v)::E) H)(ho:ops[i]? =some o:=by exact rfl)(h:OpW P N o (rst E (o.looksAt ops)) Hs (Is v):=by exact(O.loadK rfl rfl mM (by(dsimp only[List.set,cA,cN,List.take,List.drop];done)) (by rfl)))(hw:a0f ops (rst E (o.looksAt ops)) o=some true:=by exact rfl)(hd:o.dst=some d:=by exact rfl)(hN:Nat.ble (d+1) N=true:=by exact rfl):AM P N ops Hs K ((i,false)::r) E H:=AM.op ho h hw hd hN k
theorem yR {i d:Nat}{r:List (Nat×Bool)}{E:Env}{H:List HE}{o:Oper}{v:AV}(k:AM P N ops Hs K r ((d,v)::E) H)(ho:ops[i]? =some o:=by exact rfl)(h:OpW P N o (rst E (o.looksAt ops)) Hs (Is v):=by exact(O.loadK rfl rfl (by repeat(exact List.Mem.head _)) (by(dsimp only[List.set,cA,cN,List.take,List.drop];done)) (by rfl)))(hw:a0f ops (rst E (o.looksAt ops)) o=some true:=by exact rfl)(hd:o.dst=some d:=by exact rfl)(hN:Nat.ble (d+1) N=true:=by exact rfl):AM P N ops Hs K ((i,false)::r) E H:=AM.op ho h hw hd hN k
theorem yY {i d:Nat}{r:List (Nat×Bool)}{E:Env}{H:List HE}{o:Oper}{v:AV}(k:AM P N ops Hs K r ((d,v)::E) H)(ho:ops[i]? =some o:=by exact rfl)(h:OpW P N o (rst E (o.looksAt ops)) Hs (Is v):=by exact(O.load rfl rfl mM (by rfl)))(hw:a0f ops (rst E (o.looksAt ops)) o=some true:=by exact rfl)(hd:o.dst=some d:=by exact rfl)(hN:Nat.ble (d+1) N=true:=by exact rfl):AM P N ops Hs K ((i,false)::r) E H:=AM.op ho h hw hd hN k
theorem y0 {i d:Nat}{r:List (Nat×Bool)}{E:Env}{H:List HE}{o:Oper}{v:AV}(k:AM P N ops Hs K r ((d,v)::E) H)(ho:ops[i]? =some o:=by exact rfl)(h:OpW P N o (rst E (o.looksAt ops)) Hs (Is v):=by exact(O.move rfl rfl))(hw:a0f ops (rst E (o.looksAt ops)) o=some true:=by exact rfl)(hd:o.dst=some d:=by exact rfl)(hN:Nat.ble (d+1) N=true:=by exact rfl):AM P N ops Hs K ((i,false)::r) E H:=AM.op ho h hw hd hN k
theorem xl {i d:Nat}{r:List (Nat×Bool)}{E:Env}{H:List HE}{o:Oper}{v:AV}(k:AM P N ops Hs K r ((d,v)::E) H)(ho:ops[i]? =some o:=by exact rfl)(h:OpW P N o (rst E (o.looksAt ops)) Hs (Is v):=by exact(O.fieldAddr rfl rfl))(hw:a0f ops (rst E (o.looksAt ops)) o=some true:=by exact rfl)(hd:o.dst=some d:=by exact rfl)(hN:Nat.ble (d+1) N=true:=by exact rfl):AM P N ops Hs K ((i,false)::r) E H:=AM.op ho h hw hd hN k
theorem xp {i d:Nat}{r:List (Nat×Bool)}{E:Env}{H:List HE}{o:Oper}{v:AV}(k:AM P N ops Hs K r ((d,v)::E) H)(ho:ops[i]? =some o:=by exact rfl)(h:OpW P N o (rst E (o.looksAt ops)) Hs (Is v):=by exact(OpW.frz (O.buildSlice rfl rfl rfl (by rfl) (by rfl) (by rfl) (by rfl)) (by(unfold maxLen;omega))))(hw:a0f ops (rst E (o.looksAt ops)) o=some true:=by exact rfl)(hd:o.dst=some d:=by exact rfl)(hN:Nat.ble (d+1) N=true:=by exact rfl):AM P N ops Hs K ((i,false)::r) E H:=AM.op ho h hw hd hN k
theorem xx {i d:Nat}{r:List (Nat×Bool)}{E:Env}{H:List HE}{o:Oper}{v:AV}(k:AM P N ops Hs K r ((d,v)::E) H)(ho:ops[i]? =some o:=by exact rfl)(h:OpW P N o (rst E (o.looksAt ops)) Hs (Is v):=by exact(O.loadK rfl rfl (by repeat(exact List.Mem.head _)) (by(dsimp only[List.set,List.append,cA,cN,a0s,a0r,a0u,a0e,a0v,AV.cells,List.map,List.map_cons,List.map_nil,List.take,List.drop,Nat.zero_add,Nat.add_zero,Nat.reduceAdd,Nat.reduceMul,Nat.zero_mul,Value.cells,List.toList_toArray,a0t,List.replicate,List.flatten,cP];done)) (by rfl)))(hw:a0f ops (rst E (o.looksAt ops)) o=some true:=by exact rfl)(hd:o.dst=some d:=by exact rfl)(hN:Nat.ble (d+1) N=true:=by exact rfl):AM P N ops Hs K ((i,false)::r) E H:=AM.op ho h hw hd hN k
theorem we {i d:Nat}{r:List (Nat×Bool)}{E:Env}{H:List HE}{o:Oper}{v:AV}(k:AM P N ops Hs K r ((d,v)::E) H)(ho:ops[i]? =some o:=by exact rfl)(h:OpW P N o (rst E (o.looksAt ops)) Hs (Is v):=by exact(O.assign rfl rfl))(hw:a0f ops (rst E (o.looksAt ops)) o=some true:=by exact rfl)(hd:o.dst=some d:=by exact rfl)(hN:Nat.ble (d+1) N=true:=by exact rfl):AM P N ops Hs K ((i,false)::r) E H:=AM.op ho h hw hd hN k
theorem wU {i d:Nat}{r:List (Nat×Bool)}{E:Env}{H:List HE}{o:Oper}{v:AV}(k:AM P N ops Hs K r ((d,v)::E) H)(ho:ops[i]? =some o:=by exact rfl)(h:OpW P N o (rst E (o.looksAt ops)) Hs (Is v):=by exact(O.load rfl rfl (by repeat(exact List.Mem.head _)) (by rfl)))(hw:a0f ops (rst E (o.looksAt ops)) o=some true:=by exact rfl)(hd:o.dst=some d:=by exact rfl)(hN:Nat.ble (d+1) N=true:=by exact rfl):AM P N ops Hs K ((i,false)::r) E H:=AM.op ho h hw hd hN k
theorem wV {i d:Nat}{r:List (Nat×Bool)}{E:Env}{H:List HE}{o:Oper}{v:AV}(k:AM P N ops Hs K r ((d,v)::E) H)(ho:ops[i]? =some o:=by exact rfl)(h:OpW P N o (rst E (o.looksAt ops)) Hs (Is v):=by exact(O.sliceV rfl rfl rfl rfl ⟨by omega,by omega,by omega⟩ (by omega)))(hw:a0f ops (rst E (o.looksAt ops)) o=some true:=by exact rfl)(hd:o.dst=some d:=by exact rfl)(hN:Nat.ble (d+1) N=true:=by exact rfl):AM P N ops Hs K ((i,false)::r) E H:=AM.op ho h hw hd hN k
theorem vQ {i d:Nat}{r:List (Nat×Bool)}{E:Env}{H:List HE}{o:Oper}{v:AV}(ho:ops[i]? =some o)(h:OpW P N o (rst E (o.looksAt ops)) Hs (Is v))(k:AM P N ops Hs K r ((d,v)::E) H)(hw:a0f ops (rst E (o.looksAt ops)) o=some true:=by exact rfl)(hd:o.dst=some d:=by exact rfl)(hN:Nat.ble (d+1) N=true:=by exact rfl):AM P N ops Hs K ((i,false)::r) E H:=AM.op ho h hw hd hN k
theorem AM.opG {i d:Nat}{r:List (Nat×Bool)}{E:Env}{H:List HE}{o:Oper}{c:Bool}{v:AV}(ho:ops[i]? =some o)(hw:a0P ops (rst E (o.looksAt ops)) o=some c)(hd:o.dst=some d)(hN:Nat.ble (d+1) N=true)(h:c=true→OpW P N o (rst E (o.looksAt ops)) Hs (Is v))(k:AM P N ops Hs K r ((d,.opt c v)::E) H):
  AM P N ops Hs K ((i,false)::r) E H:=⟨o,d,_,ho,hd,lB hN,.opt hw h,k⟩
theorem AM.no {i d:Nat}{r:List (Nat×Bool)}{E:Env}{H:List HE}{o:Oper}(ho:ops[i]? =some o)(hw:a0f ops (rst E (o.looksAt ops)) o=some false)(hd:o.dst=some d)(hN:Nat.ble (d+1) N=true)(k:AM P N ops Hs K r ((d,.val undef)::E) H):
  AM P N ops Hs K ((i,false)::r) E H:=⟨o,d,_,ho,hd,lB hN,.no hw,k⟩
theorem AM.main {i:Nat}{r:List (Nat×Bool)}{E:Env}{H:List HE}(o:Oper)(ho:ops[i]? =some o)(h: ∀w0 R0,AO ⟨w0,a0z H,R0,N⟩ P ops (QS ⟨w0,a0z H,R0,N⟩ o.dst (fun v H'=>AM P N ops Hs K r (a0w o.dst v E) H')) [o] (rst E (o.looksAt ops)) H):
  AM P N ops Hs K ((i,true)::r) E H:=⟨o,ho,h⟩
theorem xU {i:Nat}{r:List (Nat×Bool)}{E:Env}{H:List HE}(o:Oper)(h: ∀w0 R0,AO ⟨w0,a0z H,R0,N⟩ P ops (QS ⟨w0,a0z H,R0,N⟩ o.dst (fun v H'=>AM P N ops Hs K r (a0w o.dst v E) H')) [o] (rst E (o.looksAt ops)) H)(ho:ops[i]? =some o:=by exact rfl):AM P N ops Hs K ((i,true)::r) E H:=AM.main o ho h
theorem AM.ok {w0:World}{S0 R0:Nat→Prop}{d:Nat}{v:AV}{S:AV→List HE→Prop}{E1:Env}{H':List HE}(h:S v H'):AO ⟨w0,S0,R0,N⟩ P ops (QS ⟨w0,S0,R0,N⟩ (some d) S) [] ((d,v)::E1) H':=fun R a W hs ha=>
 ⟨ha.defers,v,H',R,h,hs,fun t ht=>by cases ht;exact ha.slots d v b0o⟩
theorem AM.okN {w0:World}{S0 R0:Nat→Prop}{S:AV→List HE→Prop}{E1:Env}{H':List HE}(h:S (.val undef) H'):AO ⟨w0,S0,R0,N⟩ P ops (QS ⟨w0,S0,R0,N⟩ none S) [] E1 H':=fun R a W hs ha=>
 ⟨ha.defers,_,H',R,h,hs,fun t ht=>by cases ht⟩
theorem AM.nil {E:Env}{H:List HE}(h:K E H):AM P N ops Hs K [] E H:=h
theorem vn {E:Env}{H:List HE}(h:K E H):AM P N ops Hs K [] E H:=AM.nil h
end
theorem h0B (n:Int)(h0:0≤n)(h1:n<2^63):IntKind.i64.wrap n=n:=by rw[IntKind.wrap_i64];omega
section
variable {x y q m:Int}
theorem j0z (i:Nat)(hi:i≤8)(hq:q=2^i-1)(hm:m=2^i)(h:0≤x∧x≤255):Go.bits .and .u8 x q=x%m:=by
 subst hq;subst hm;exact bits_mask .u8 8 (by decide) wraps_u8 i hi x h.1 (by omega)
theorem q0K (i:Nat)(hi:i≤64)(hq:q=2^i-1)(hm:m=2^i)(h:0≤x∧x≤18446744073709551615):Go.bits .and .u64 x q=x%m:=by
 subst hq;subst hm;exact bits_mask .u64 64 (by decide) wraps_u64 i hi x h.1 (by omega)
theorem v0O (i:Nat)(hm:m=2^i)(hx:0≤x∧x≤255∧x%m=0)(hy:0≤y∧y<m∧y≤255):Go.bits .or .u8 x y=x+y:=by
 subst hm;exact bits_join .u8 8 (by decide) wraps_u8 i x y hx.1 hx.2.2 (by omega) hy.1 hy.2.1 (by omega)
theorem m0W (i:Nat)(hm:m=2^i)(hx:0≤x∧x≤9223372036854775807∧x%m=0)(hy:0≤y∧y<m∧y≤9223372036854775807):Go.bits .or .i64 x y=x+y:=by
 subst hm;exact bits_join .i64 63 (by decide) h0B i x y hx.1 hx.2.2 (by omega) hy.1 hy.2.1 (by omega)
theorem k0D {a c:Nat}(ha:a<256)(hc:c<256):Go.bits .and .u8 (a:Int) (c:Int)=((a&&&c:Nat):Int):=(bits_nat .u8 8 (by decide) wraps_u8 a c ha hc).1
theorem j0A {a c:Nat}(ha:a<9223372036854775808)(hc:c<9223372036854775808):Go.bits .and .i64 (a:Int) (c:Int)=((a&&&c:Nat):Int):=(bits_nat .i64 63 (by decide) h0B a c ha hc).1
theorem s0Z {a b:UInt8}:Go.bits .xor .u8 (a.toNat:Int) (b.toNat:Int)=((a^^^b).toNat:Int):=by
 have h:(a.toNat^^^b.toNat)<2^8:=Nat.xor_lt_two_pow a.toNat_lt b.toNat_lt
 have e:(BitVec.ofInt 8 (a.toNat:Int)^^^BitVec.ofInt 8 (b.toNat:Int)).toNat=(a^^^b).toNat:=by
  rw[BitVec.toNat_xor,BitVec.ofInt_natCast,BitVec.ofInt_natCast,BitVec.toNat_ofNat,BitVec.toNat_ofNat,Nat.mod_eq_of_lt a.toNat_lt,Nat.mod_eq_of_lt b.toNat_lt,UInt8.toNat_xor]
 show IntKind.u8.wrap ((BitVec.ofInt 8 (a.toNat:Int)^^^BitVec.ofInt 8 (b.toNat:Int)).toNat:Int)=_
 rw[e]
 have:=(a^^^b).toNat_lt
 exact wraps_u8 _ (by omega) (by omega)
end
section
variable {Γ:Cx}{P:Program}{E:Env}{H:List HE}{N:Nat}{o:Oper}
theorem O.shrK (j:Nat)(m:Int){T T':Nat}{x y:Operand}{k k':IntKind}{p q:Int}(ho:o.op= .binOp .shr T x y T')(hx:ev E x=some (.val (.int k p)))(hy:ev E y=some (.val (.int k' q)))(hq:q=(j:Int))(hm:(2:Int)^ (min j k.bits)=m):
  OpW P N o E H (Is (.val (.int k (p/m)))):=O.shr ho hx hy (by omega) (by
   subst hq;subst hm
   rw[Int.toNat_natCast,Int.fdiv_eq_ediv_of_nonneg]
   exact Int.le_of_lt (Int.pow_pos (by decide)))
theorem wB {T T':Nat}{x y:Operand}{k k':IntKind}{p q:Int}(j:Nat)(m:Int)(ho:o.op= .binOp .shr T x y T':=by exact rfl)(hx:ev E x=some (.val (.int k p)):=by exact rfl)(hy:ev E y=some (.val (.int k' q)):=by exact rfl)(hq:q=(j:Int):=by exact rfl)(hm:(2:Int)^ (min j k.bits)=m:=by rfl):OpW P N o E H (Is (.val (.int k (p/m)))):=O.shrK j m ho hx hy hq hm
theorem O.shlK (j:Nat)(m:Int){T T':Nat}{x y:Operand}{k k':IntKind}{p q c:Int}(ho:o.op= .binOp .shl T x y T')(hx:ev E x=some (.val (.int k p)))(hy:ev E y=some (.val (.int k' q)))(hq:q=(j:Int))(hm:(2:Int)^ (min j k.bits)=m)(hc:k.wrap (p*m)=c):
  OpW P N o E H (Is (.val (.int k c))):=O.shl ho hx hy (by omega) (by
   subst hq;subst hm
   rw[Int.toNat_natCast];exact hc)
end
section
variable {Γ:Cx}{P:Program}{Q:Exit→Act→World→Prop}{E:Env}{H:List HE}
def Mid (Γ:Cx)(Q:Exit→Act→World→Prop)(φ:Prop)(E1:Env)(H1:List HE):Exit→Act→World→Prop:=Exit.then (fun a W=>φ∧ ∃R,RelS Γ R H1 W∧RelA Γ.N R W E1 a) Q
theorem q0d {c:Code}{a:Act}{W:World}{φ:Prop}{E1:Env}{H1:List HE}(h:c.wp P (Mid Γ Q φ E1 H1) a W)(k:φ→AQ Γ Q .normal E1 H1):c.wp P Q a W:=by
 refine wp_mono h ?_
 intro x a W hx
 cases x with
 |normal=>obtain⟨hφ,R,h1,h2⟩:=hx;exact k hφ R a W h1 h2
 |_=>exact hx
theorem AQ.midR {φ:Prop}{E1:Env}{H1:List HE}(h:AQ Γ Q .ret E H):AQ Γ (Mid Γ Q φ E1 H1) .ret E H:=h
theorem AW.joinK {t:Nat}{b:Bool}{x y:Code}(φ:Prop)(K E1:Env)(H1:List HE)(ht:a0q E t=some (.val (.bool b)))(hK: ∀p∈K,a0q E p.1=some p.2)(h1:b=true→AW Γ P (Mid Γ Q φ (E1++K) H1) x E H)(h2:b=false→AW Γ P (Mid Γ Q φ (E1++K) H1) y E H)(k:φ→AQ Γ Q .normal (E1++K) H1):
  AW Γ P Q (.cond (.tmp t) x y) E H:=AW.cond b ht (fun hb R a W hs ha=>q0d (h1 hb R a W hs ha) k) (fun hb R a W hs ha=>q0d (h2 hb R a W hs ha) k)
theorem wh {t:Nat}{b:Bool}{x y:Code}(φ:Prop)(K:Env)(E1:Env)(H1:List HE)(h1:b=true→AW Γ P (Mid Γ Q φ (E1++K) H1) x E H)(h2:b=false→AW Γ P (Mid Γ Q φ (E1++K) H1) y E H)(k:φ→AQ Γ Q .normal (E1++K) H1)(ht:a0q E t=some (.val (.bool b)):=by exact rfl)(hK: ∀p∈K,a0q E p.1=some p.2:=by repeat(first|exact a0m|refine a0k rfl ?_)):AW Γ P Q (.cond (.tmp t) x y) E H:=AW.joinK φ K E1 H1 ht hK h1 h2 k
theorem AQ.midK {φ:Prop}{K E1:Env}{H1:List HE}(hφ:φ)(hK: ∀p∈K,a0q E p.1=some p.2)(hE: ∀p∈E1,a0q E p.1=some p.2)(hH: ∃H2,H2.Sublist H∧H1.Perm H2):AQ Γ (Mid Γ Q φ (E1++K) H1) .normal E H:=fun R a W hs ha=>by
 obtain⟨H2,h1,h2⟩:=hH
 have hmem: ∀{E:Env} {t:Nat} {v:AV},a0q E t=some v→(t,v)∈E:=by
  intro E
  induction E with
  |nil=>intro t v h;cases h
  |cons p r ih=>
   intro t v h
   unfold a0q at h
   cases hb:Nat.beq p.1 t with
   |true=>rw[hb]at h;simp at h;subst h;have:=Nat.eq_of_beq_eq_true hb;subst this;exact List.mem_cons_self ..
   |false=>rw[hb]at h;exact List.mem_cons_of_mem _ (ih h)
 exact⟨hφ,R,(hs.sub h1).perm h2,ha.defers,ha.size,fun t v ht=>ha.slots t v (h0q hE hK _ (hmem ht))⟩
theorem yK {φ:Prop}{K E1:Env}{H1:List HE}(hφ:φ:=by exact(trivial))(hK: ∀p∈K,a0q E p.1=some p.2:=by repeat(first|exact a0m|refine a0k rfl ?_))(hE: ∀p∈E1,a0q E p.1=some p.2:=by repeat(first|exact a0m|refine a0k rfl ?_))(hH: ∃H2,H2.Sublist H∧H1.Perm H2:=by repeat(first|exact a0B|refine a0x 0 rfl ?_)):AQ Γ (Mid Γ Q φ (E1++K) H1) .normal E H:=AQ.midK hφ hK hE hH
theorem wJ {φ:Prop}{K E1:Env}{H1:List HE}(hφ:φ)(hK: ∀p∈K,a0q E p.1=some p.2:=by repeat(first|exact a0m|refine a0k rfl ?_))(hE: ∀p∈E1,a0q E p.1=some p.2:=by repeat(first|exact a0m|refine a0k rfl ?_))(hH: ∃H2,H2.Sublist H∧H1.Perm H2:=by repeat(first|exact a0B|refine a0x 0 rfl ?_)):AQ Γ (Mid Γ Q φ (E1++K) H1) .normal E H:=AQ.midK hφ hK hE hH
theorem wY {φ:Prop}{K E1:Env}{H1:List HE}(hφ:φ:=by exact(trivial))(hK: ∀p∈K,a0q E p.1=some p.2:=by repeat(first|exact a0m|refine a0k rfl ?_))(hE: ∀p∈E1,a0q E p.1=some p.2:=by repeat(exact a0m))(hH: ∃H2,H2.Sublist H∧H1.Perm H2:=by repeat(first|exact a0B|refine a0x 0 rfl ?_)):AQ Γ (Mid Γ Q φ (E1++K) H1) .normal E H:=AQ.midK hφ hK hE hH
theorem AQ.midK0 {φ:Prop}{E1:Env}{H1:List HE}(hφ:φ)(hE: ∀p∈E1,a0q E p.1=some p.2)(hH: ∃H2,H2.Sublist H∧H1.Perm H2):AQ Γ (Mid Γ Q φ E1 H1) .normal E H:=
 AQ.midK (K:=E1) (E1:= []) hφ hE (fun p hp=>absurd hp (by simp)) hH
theorem vh {φ:Prop}{E1:Env}{H1:List HE}(hφ:φ:=by exact(trivial))(hE: ∀p∈E1,a0q E p.1=some p.2:=by repeat(first|exact a0m|refine a0k rfl ?_))(hH: ∃H2,H2.Sublist H∧H1.Perm H2:=by repeat(first|exact a0B|refine a0x 0 rfl ?_)):AQ Γ (Mid Γ Q φ E1 H1) .normal E H:=AQ.midK0 hφ hE hH
def o0i (Γ:Cx)(Q:Exit→Act→World→Prop)(K:Env)(I:Env→List HE→Prop):Exit→Act→World→Prop:=Exit.then (fun a W=> ∃E1 H1 R,I E1 H1∧RelS Γ R H1 W∧RelA Γ.N R W (E1++K) a) Q
theorem l0J {c:Code}{a:Act}{W:World}{K:Env}{I:Env→List HE→Prop}(h:c.wp P (o0i Γ Q K I) a W)(k: ∀E1 H1,I E1 H1→AQ Γ Q .normal (E1++K) H1):c.wp P Q a W:=by
 refine wp_mono h ?_
 intro x a W hx
 cases x with
 |normal=>obtain⟨E1,H1,R,hI,h1,h2⟩:=hx;exact k E1 H1 hI R a W h1 h2
 |_=>exact hx
theorem AW.joinI {t:Nat}{b:Bool}{x y:Code}(K:Env)(I:Env→List HE→Prop)(ht:a0q E t=some (.val (.bool b)))(hK: ∀p∈K,a0q E p.1=some p.2)(h1:b=true→AW Γ P (o0i Γ Q K I) x E H)(h2:b=false→AW Γ P (o0i Γ Q K I) y E H)(k: ∀E1 H1,I E1 H1→AQ Γ Q .normal (E1++K) H1):
  AW Γ P Q (.cond (.tmp t) x y) E H:=AW.cond b ht (fun hb R a W hs ha=>l0J (h1 hb R a W hs ha) k) (fun hb R a W hs ha=>l0J (h2 hb R a W hs ha) k)
theorem wc {t:Nat}{b:Bool}{x y:Code}(K:Env)(I:Env→List HE→Prop)(h1:b=true→AW Γ P (o0i Γ Q K I) x E H)(h2:b=false→AW Γ P (o0i Γ Q K I) y E H)(k: ∀E1 H1,I E1 H1→AQ Γ Q .normal (E1++K) H1)(ht:a0q E t=some (.val (.bool b)):=by exact rfl)(hK: ∀p∈K,a0q E p.1=some p.2:=by repeat(first|exact a0m|refine a0k rfl ?_)):AW Γ P Q (.cond (.tmp t) x y) E H:=AW.joinI K I ht hK h1 h2 k
theorem vj {t:Nat}{b:Bool}{x y:Code}(K:Env)(I:Env→List HE→Prop)(h1:b=true→AW Γ P (o0i Γ Q K I) x E H)(h2:b=false→AW Γ P (o0i Γ Q K I) y E H)(k: ∀E1 H1,I E1 H1→AQ Γ Q .normal (E1++K) H1)(ht:a0q E t=some (.val (.bool b)):=by exact rfl)(hK: ∀p∈K,a0q E p.1=some p.2:=by repeat(exact a0m)):AW Γ P Q (.cond (.tmp t) x y) E H:=AW.joinI K I ht hK h1 h2 k
theorem AQ.midI {K:Env}{I:Env→List HE→Prop}(E1:Env)(H1:List HE)(hI:I E1 H1)(hK: ∀p∈K,a0q E p.1=some p.2)(hE: ∀p∈E1,a0q E p.1=some p.2)(hH: ∃H2,H2.Sublist H∧H1.Perm H2):AQ Γ (o0i Γ Q K I) .normal E H:=fun R a W hs ha=>by
 obtain⟨H2,h1,h2⟩:=hH
 have hmem: ∀{E:Env} {t:Nat} {v:AV},a0q E t=some v→(t,v)∈E:=by
  intro E
  induction E with
  |nil=>intro t v h;cases h
  |cons p r ih=>
   intro t v h
   unfold a0q at h
   cases hb:Nat.beq p.1 t with
   |true=>rw[hb]at h;simp at h;subst h;have:=Nat.eq_of_beq_eq_true hb;subst this;exact List.mem_cons_self ..
   |false=>rw[hb]at h;exact List.mem_cons_of_mem _ (ih h)
 exact⟨E1,H1,R,hI,(hs.sub h1).perm h2,ha.defers,ha.size,fun t v ht=>ha.slots t v (h0q hE hK _ (hmem ht))⟩
theorem ye {K:Env}{I:Env→List HE→Prop}(E1:Env)(H1:List HE)(hI:I E1 H1)(hK: ∀p∈K,a0q E p.1=some p.2:=by repeat(exact a0m))(hE: ∀p∈E1,a0q E p.1=some p.2:=by repeat(first|exact a0m|refine a0k rfl ?_))(hH: ∃H2,H2.Sublist H∧H1.Perm H2:=by repeat(exact a0B)):AQ Γ (o0i Γ Q K I) .normal E H:=AQ.midI E1 H1 hI hK hE hH
theorem yx {K:Env}{I:Env→List HE→Prop}(E1:Env)(H1:List HE)(hI:I E1 H1)(hK: ∀p∈K,a0q E p.1=some p.2:=by repeat(first|exact a0m|refine a0k rfl ?_))(hE: ∀p∈E1,a0q E p.1=some p.2:=by repeat(first|exact a0m|refine a0k rfl ?_))(hH: ∃H2,H2.Sublist H∧H1.Perm H2:=by repeat(exact a0B)):AQ Γ (o0i Γ Q K I) .normal E H:=AQ.midI E1 H1 hI hK hE hH
theorem xI {K:Env}{I:Env→List HE→Prop}(E1:Env)(H1:List HE)(hI:I E1 H1)(hK: ∀p∈K,a0q E p.1=some p.2:=by repeat(first|exact a0m|refine a0k rfl ?_))(hE: ∀p∈E1,a0q E p.1=some p.2:=by repeat(exact a0m))(hH: ∃H2,H2.Sublist H∧H1.Perm H2:=by repeat(first|exact a0B|refine a0x 0 rfl ?_)):AQ Γ (o0i Γ Q K I) .normal E H:=AQ.midI E1 H1 hI hK hE hH
theorem FnQ.coe {Γ:Cx}{P:Program}{fn:Func}{Post:AV→List HE→Prop}{E:Env}{H:List HE}{r r':AV}{H':List HE}(h:AQ Γ (FnQ Γ P fn (fun q K=>q=r∧K=H')) .ret E H)(hc:Coe r r')(hp:Post r' H'):AQ Γ (FnQ Γ P fn Post) .ret E H:=fun R a W hs ha=>by
 have:=h R a W hs ha
 unfold FnQ at this⊢
 obtain⟨hd,v,hv,u,q,K,R',he,⟨rfl,rfl⟩,h1,h2⟩:=this
 exact⟨hd,v,hv,u,_,_,R',he,hp,h1,hc R' W u h2⟩
theorem x9 {Γ:Cx}{P:Program}{fn:Func}{Post:AV→List HE→Prop}{E:Env}{H:List HE}{r r':AV}{H':List HE}(h:AQ Γ (FnQ Γ P fn (fun q K=>q=r∧K=H')) .ret E H)(hc:Coe r r')(hp:Post r' H'):AQ Γ (FnQ Γ P fn Post) .ret E H:=FnQ.coe h hc hp
theorem Coe.tup {x y:List AV}(h:CoeL x y):Coe (.tup x) (.tup y):=fun R W u hu=>by
 obtain⟨us,rfl,h1⟩:=hu.tup_inv
 exact(h R W us h1).toTup
theorem zk {x y:List AV}(h:CoeL x y:=by(repeat(first|exact CoeL.nil|refine CoeL.cons Coe.rfl ?_|refine CoeL.cons Coe.nil ?_|refine CoeL.cons (Coe.agg ?_) ?_));done):Coe (.tup x) (.tup y):=Coe.tup h
theorem yu {x y:List AV}(h:CoeL x y:=by(repeat(first|exact CoeL.nil|refine CoeL.cons Coe.rfl ?_|refine CoeL.cons Coe.nil ?_));done):Coe (.tup x) (.tup y):=Coe.tup h
theorem yQ {x y:List AV}(h:CoeL x y:=by(repeat(first|exact CoeL.nil|refine CoeL.cons Coe.rfl ?_));done):Coe (.tup x) (.tup y):=Coe.tup h
end
end Go.Proofs.YtojomcdjcpmnkaaGreat.A
namespace Go.Proofs.YtojomcdjcpmnkaaGreat.Dk
open Go.RowKit L A
attribute [local irreducible] AW AQ AO
theorem mod_fn (v n:Int)(h1:0<n)(h2:n≤4611686018427387904):Sp Tryz.prog 82 [.val (.int .i64 v),.val (.int .i64 n)] [] (Is (.val (.int .i64 (v%n)))):=by
 have hf:=l0S v n h1
 have hlt:v.tmod n<n:=Int.tmod_lt_of_pos v h1
 have hge: -n<v.tmod n:=by
  rcases Int.le_total 0 v with hv|hv
  ·have:=Int.tmod_nonneg n hv;omega
  ·have:=Int.lt_tmod_of_pos v h1;omega
 refine Sp.enter Tryz.func82 rfl _ Tryz.ntmps82 rfl (fun w0 R0=> ?_)
 refine AW.seq ?_
 refine AW.region ?_
 refine AO.op (O.assign rfl rfl) rfl rfl rfl ?_
 refine AO.nil ?_
 refine AQ.thenN ?_
 refine AW.seq ?_
 refine AW.region ?_
 refine AO.op (O.move rfl rfl) rfl rfl rfl ?_
 refine AO.op (O.move rfl rfl) rfl rfl rfl ?_
 refine AO.op (O.rem rfl rfl rfl (by omega) rfl) rfl rfl rfl ?_
 refine AO.op (O.assign rfl rfl) rfl rfl rfl ?_
 refine AO.nil ?_
 refine AQ.thenN ?_
 refine AW.seq ?_
 refine AW.seq ?_
 refine AW.region ?_
 refine AO.op (O.move rfl rfl) rfl rfl rfl ?_
 refine AO.op (O.lss rfl rfl rfl (by rfl)) rfl rfl rfl ?_
 refine AO.nil ?_
 refine AQ.thenN ?_
 refine AW.split rfl (fun h=> ?_) (fun h=> ?_)
 ·have h:v.tmod n<0:=of_decide_eq_true h
  rw[if_pos h]at hf
  refine AW.region ?_
  refine AO.op (O.move rfl rfl) rfl rfl rfl ?_
  refine AO.op (O.move rfl rfl) rfl rfl rfl ?_
  refine AO.op (O.add rfl rfl rfl (by exact d0Z (by omega))) rfl rfl rfl ?_
  refine AO.op (O.assign rfl rfl) rfl rfl rfl ?_
  refine AO.nil ?_
  refine AQ.thenN ?_
  refine AW.seq ?_
  refine AW.region ?_
  refine AO.op (O.move rfl rfl) rfl rfl rfl ?_
  refine AO.op (O.assign rfl rfl) rfl rfl rfl ?_
  refine AO.nil ?_
  refine AQ.thenN ?_
  refine AW.ret ?_
  refine AQ.ret1 rfl rfl nS (⟨by rw[hf],rfl⟩)
 ·have h: ¬v.tmod n<0:=of_decide_eq_false h
  rw[if_neg h]at hf
  refine AW.skip ?_
  refine AQ.thenN ?_
  refine AW.seq ?_
  refine AW.region ?_
  refine AO.op (O.move rfl rfl) rfl rfl rfl ?_
  refine AO.op (O.assign rfl rfl) rfl rfl rfl ?_
  refine AO.nil ?_
  refine AQ.thenN ?_
  refine AW.ret ?_
  refine AQ.ret1 rfl rfl nS (⟨by rw[hf],rfl⟩)
abbrev i0t (b:Nat)(l:List Int)(k:Nat):HE:= .blk b 101 2 [roI l,.val (.int .i64 (k:Int))]
abbrev ptr (b:Nat):AV:= .val (.pointer (some ⟨b,0,none⟩))
def nxt (l:List Int)(k:Nat)(n:Int):Int:=if k<l.length then l.getD k 0%n else 0
def adv (l:List Int)(k:Nat):Nat:=if k<l.length then k+1 else k
theorem q0w (l:List Int)(k:Nat){n:Int}(h:0<n):0≤nxt l k n∧nxt l k n<n:=by
 unfold nxt
 split
 ·exact⟨Int.emod_nonneg _ (by omega),Int.emod_lt_of_pos _ h⟩
 ·omega
theorem u0q {l:List Int}{k m:Nat}(h:k≤m)(hm:l.length≤m):adv l k≤m:=by unfold adv;split<;>omega
theorem s0J {l:List Int}{k:Nat}(h:k≤l.length):adv l k≤l.length:=u0q h (Nat.le_refl _)
theorem t0G (l:List Int):Sp Tryz.prog 11 [roI l] [] (b0f (fun b=> .val (.pointer (some ⟨b,0,none⟩))) 101 2 [roI l,.val (.int .i64 0)]):=by
 refine Sp.enter Tryz.func11 rfl _ Tryz.ntmps11 rfl (fun w0 R0=> ?_)
 refine AW.seq ?_
 refine AW.region ?_
 refine AO.op (O.assign rfl rfl) rfl rfl rfl ?_
 refine AO.nil ?_
 refine AQ.thenN ?_
 refine AW.seq ?_
 refine AW.region ?_
 refine AO.op (O.move rfl rfl) rfl rfl rfl ?_
 refine AO.op (O.build rfl rfl rfl (by rfl)) rfl rfl rfl ?_
 refine AO.opB (O.box rfl rfl rfl rfl rfl) rfl rfl rfl ?_
 intro B
 refine AO.op (O.assign rfl rfl) rfl rfl rfl ?_
 refine AO.nil ?_
 refine AQ.thenN ?_
 refine AW.ret ?_
 refine AQ.ret1 rfl rfl ⟨_,by repeat(first|exact List.Sublist.slnil|refine List.Sublist.cons_cons _ ?_),List.Perm.refl _⟩ (⟨B,rfl,rfl⟩)
theorem t0p {l:List Int}{k:Nat}(h:k<l.length){j:Nat}(hj:j=k):(d0k .i64 l)[j]? =some (.val (.int .i64 (l.getD k 0))):=by
 subst hj;simp[d0k,h]
theorem s0e (b:Nat)(l:List Int)(k:Nat)(n:Int)(hl:l.length≤maxLen)(hk:k≤l.length)(hn1:0<n)(hn2:n≤4611686018427387904):
  Sp Tryz.prog 33 [ptr b,.val (.int .i64 n)] [i0t b l k] (IsM (.val (.int .i64 (nxt l k n))) (i0t b l (adv l k))):=by
 unfold maxLen at hl
 refine Sp.enter Tryz.func33 rfl _ Tryz.ntmps33 rfl (fun w0 R0=> ?_)
 refine AW.seq ?_
 refine AW.region ?_
 refine AO.op (O.assign rfl rfl) rfl rfl rfl ?_
 refine AO.nil ?_
 refine AQ.thenN ?_
 refine AW.seq ?_
 refine AW.seq ?_
 refine AW.regionD 10 (by kernel_rfl) (by kernel_rfl) ?_
 simp only[cT,cZ,cD,cO]
 refine FA.op (O.move rfl rfl) rfl rfl rfl rfl ?_
 refine FA.op (O.nilCheck rfl rfl) rfl rfl rfl rfl ?_
 refine FA.op (O.fieldAddr rfl rfl) rfl rfl rfl rfl ?_
 refine FA.op (O.load rfl rfl (by repeat(exact List.Mem.head _)) (by rfl)) rfl rfl rfl rfl ?_
 refine FA.op (O.move rfl rfl) rfl rfl rfl rfl ?_
 refine FA.op (O.nilCheck rfl rfl) rfl rfl rfl rfl ?_
 refine FA.op (O.fieldAddr rfl rfl) rfl rfl rfl rfl ?_
 refine FA.op (O.load rfl rfl (by repeat(exact List.Mem.head _)) (by rfl)) rfl rfl rfl rfl ?_
 refine FA.op (O.lenR rfl rfl) rfl rfl rfl rfl ?_
 refine FA.op (O.geq rfl rfl rfl (by rfl)) rfl rfl rfl rfl ?_
 refine FA.nil ?_
 simp only[a0g,cN,cA,cP]
 refine AO.nil ?_
 refine AQ.thenN ?_
 refine AW.split rfl (fun h=> ?_) (fun h=> ?_)
 ·have h: ¬k<l.length:=by have:=of_decide_eq_true h;omega
  refine AW.seq ?_
  refine AW.region ?_
  refine AO.op (O.assign rfl rfl) rfl rfl rfl ?_
  refine AO.nil ?_
  refine AQ.thenN ?_
  refine AW.ret ?_
  refine AQ.thenR ?_
  have e1:nxt l k n=0:=by simp only[nxt,if_neg h]
  have e2:adv l k=k:=by simp only[adv,if_neg h]
  refine AQ.ret1 rfl rfl ⟨_,by repeat(first|exact List.Sublist.slnil|refine List.Sublist.cons_cons _ ?_),List.Perm.refl _⟩ (⟨congrArg (fun z=>AV.val (.int .i64 z)) e1.symm,congrArg (fun z=> [i0t b l z]) e2.symm⟩)
 ·have h:k<l.length:=by have:=of_decide_eq_false h;omega
  refine AW.skip ?_
  refine AQ.thenN ?_
  refine AW.seq ?_
  refine AW.region ?_
  refine AO.op (O.move rfl rfl) rfl rfl rfl ?_
  refine AO.op (O.nilCheck rfl rfl) rfl rfl rfl ?_
  refine AO.op (O.fieldAddr rfl rfl) rfl rfl rfl ?_
  refine AO.op (O.load rfl rfl (by repeat(exact List.Mem.head _)) (by rfl)) rfl rfl rfl ?_
  refine AO.op (O.add rfl rfl rfl (by exact d0Z (by omega))) rfl rfl rfl ?_
  refine AO.op (O.nilCheck rfl rfl) rfl rfl rfl ?_
  refine AO.op (O.fieldAddr rfl rfl) rfl rfl rfl ?_
  (refine AO.store (i:=0) rfl rfl rfl rfl rfl rfl (by rfl) (by rfl) (by rfl) (by(dsimp only[List.set,List.append,cA,cN,a0e,a0v,AV.cells,List.map,List.map_cons,List.map_nil,List.take,List.drop,Nat.zero_add,Nat.add_zero,Nat.reduceAdd,Nat.reduceMul,Nat.zero_mul,Value.cells,List.toList_toArray,a0t,List.replicate,List.flatten,cP];done)) (by(dsimp only[List.set,List.append,cA,cN,a0e,a0v,AV.cells,List.map,List.map_cons,List.map_nil,List.take,List.drop,Nat.zero_add,Nat.add_zero,Nat.reduceAdd,Nat.reduceMul,Nat.zero_mul,Value.cells,List.toList_toArray,a0t,List.replicate,List.flatten,cP];done)) ?_)
  refine AO.nil ?_
  refine AQ.thenN ?_
  refine AW.seq ?_
  refine AW.regionD 14 (by kernel_rfl) (by kernel_rfl) ?_
  simp only[cT,cZ,cD,cO]
  refine FA.op (O.move rfl rfl) rfl rfl rfl rfl ?_
  refine FA.op (O.nilCheck rfl rfl) rfl rfl rfl rfl ?_
  refine FA.op (O.fieldAddr rfl rfl) rfl rfl rfl rfl ?_
  refine FA.op (O.load rfl rfl (by repeat(exact List.Mem.head _)) (by rfl)) rfl rfl rfl rfl ?_
  refine FA.op (O.move rfl rfl) rfl rfl rfl rfl ?_
  refine FA.op (O.nilCheck rfl rfl) rfl rfl rfl rfl ?_
  refine FA.op (O.fieldAddr rfl rfl) rfl rfl rfl rfl ?_
  refine FA.op (O.load rfl rfl (by repeat(exact List.Mem.head _)) (by rfl)) rfl rfl rfl rfl ?_
  refine FA.op (O.sub rfl rfl rfl (by exact d0Z (by omega))) rfl rfl rfl rfl ?_
  refine FA.op (O.idxR rfl rfl rfl ⟨(by omega),(by omega)⟩) rfl rfl rfl rfl ?_
  refine FA.op (O.loadR rfl rfl (by exact t0p (by assumption) (by omega))) rfl rfl rfl rfl ?_
  refine FA.op (O.move rfl rfl) rfl rfl rfl rfl ?_
  refine FA.op (O.call rfl Tryz.func82 rfl rfl rfl (mod_fn _ _ hn1 hn2)) rfl rfl rfl rfl ?_
  refine FA.op (O.assign rfl rfl) rfl rfl rfl rfl ?_
  refine FA.nil ?_
  simp only[a0g,cN,cA,cP]
  refine AO.nil ?_
  refine AQ.thenN ?_
  refine AW.ret ?_
  have e1:nxt l k n=l.getD k 0%n:=by simp only[nxt,if_pos h]
  have e2:adv l k=k+1:=by simp only[adv,if_pos h]
  refine AQ.ret1 rfl rfl ⟨_,by repeat(first|exact List.Sublist.slnil|refine List.Sublist.cons_cons _ ?_),List.Perm.refl _⟩ (⟨congrArg (fun z=>AV.val (.int .i64 z)) e1.symm,congrArg (fun z=> [i0t b l z]) e2.symm⟩)
end Go.Proofs.YtojomcdjcpmnkaaGreat.Dk
namespace Go.Proofs.YtojomcdjcpmnkaaGreat.By
open Go.RowKit L A
attribute [local irreducible] AW AQ AO
section
variable {α:Type}{f:α→List AV}{k:Nat}
theorem e0Y (hf: ∀a,(f a).length=k): ∀l:List α,(l.flatMap f).length=l.length*k
 | []=>by simp
 |a::l=>by rw[List.flatMap_cons,cH,hf,e0Y hf l,cL,Nat.add_mul];omega
theorem f0B (hf: ∀a,(f a).length=k): ∀(l:List α) (n:Nat),(l.flatMap f).take (n*k)=(l.take n).flatMap f
 | [],n=>by simp
 |a::l,0=>by simp
 |a::l,n+1=>by
  rw[List.flatMap_cons,cT,List.flatMap_cons,←f0B hf l n,show(n+1)*k=(f a).length+n*k by rw[hf,Nat.add_mul];omega,List.take_length_add_append]
theorem f0D (hf: ∀a,(f a).length=k): ∀(l:List α) (n:Nat),(l.flatMap f).drop (n*k)=(l.drop n).flatMap f
 | [],n=>by simp
 |a::l,0=>by simp
 |a::l,n+1=>by
  rw[List.flatMap_cons,cD,←f0D hf l n,show(n+1)*k=(f a).length+n*k by rw[hf,Nat.add_mul];omega,List.drop_length_add_append]
theorem e0m (hf: ∀a,(f a).length=k)(d:α){l:List α}{i:Nat}(h:i<l.length){j:Nat}(hj:j=i):((l.flatMap f).drop (j*k)).take k=f (l.getD i d):=by
 subst hj
 rw[f0D hf,List.drop_eq_getElem_cons h,List.flatMap_cons,List.take_left' (hf _)]
 simp[h]
theorem i0k (hf: ∀a,(f a).length=k)(d:α){l:List α}{i c:Nat}(h:i<l.length)(hc:c<k){j:Nat}(hj:j=i*k+c):(l.flatMap f)[j]? =(f (l.getD i d))[c]? :=by
 have:=e0m hf d h rfl
 rw[←this,List.getElem?_take,if_pos hc,List.getElem?_drop,hj]
theorem k0s (l m:List α):(l++m).flatMap f=l.flatMap f++m.flatMap f:=List.flatMap_append
theorem f0C (l:List α)(a:α):(l++[a]).flatMap f=l.flatMap f++f a:=by simp[List.flatMap_append]
theorem a0i (d:α){l:List α}{i:Nat}(h:i<l.length):l.take (i+1)=l.take i++[l.getD i d]:=by
 rw[List.take_succ_eq_append_getElem h];simp[h]
theorem i0s (d:α){l:List α}{i:Nat}(h:i<l.length):l.drop i=l.getD i d::l.drop (i+1):=by
 rw[List.drop_eq_getElem_cons h];simp[h]
theorem b0d (d:α){l:List α}{i:Nat}(h:i<l.length):l.getD i d∈l:=by simp[h]
end
theorem g0K {p:Prop}[Decidable p]{b:Bool}(h:p↔b=true):decide p=b:=by
 cases b
 ·exact decide_eq_false fun hp=>by have:=h.1 hp;cases this
 exact decide_eq_true (h.2 rfl)
abbrev bt (l:List UInt8)(k:Nat):UInt8:=l.getD k 0
theorem b0a {l:List UInt8}{k:Nat}(h:k<l.length){j:Nat}(hj:j=k):(a0a l)[j]? =some (.val (.int .u8 ((bt l k).toNat:Int))):=by
 subst hj;simp[a0a,h,bt]
theorem b0t (x:UInt8):0≤(x.toNat:Int)∧(x.toNat:Int)<256:=by have:=x.toNat_lt;omega
theorem u8_eq {x y:UInt8}:(x.toNat:Int)=(y.toNat:Int)↔x=y:=by
 rw[Int.ofNat_inj];exact UInt8.toNat_inj
theorem g0T (x:UInt8):u8 (x.toNat:Int)=x:=by
 have h:=b0t x
 unfold u8
 rw[Int.emod_eq_of_lt h.1 h.2]
 simp
theorem t0e (x y:Int)(h:x%256=y%256):u8 x=u8 y:=by unfold u8;rw[h]
theorem a0I {x:Int}(h:0≤x∧x<256):((u8 x).toNat:Int)=x:=by rw[c0c];omega
theorem b0r {n:Nat}{xs:List AV}{l:List UInt8}(h1:n=l.length)(h2:xs=a0a l):AV.ro false n xs=roB l:=by subst h1;subst h2;rfl
theorem f0L {l:List UInt8}{k:Nat}(h:k<l.length):l.drop k=bt l k::l.drop (k+1):=i0s 0 h
theorem i0O {l:List UInt8}{k:Nat}(h:k<l.length):l.take (k+1)=l.take k++[bt l k]:=a0i 0 h
theorem j0s (l:List UInt8)(n:Nat):(a0a l).take (n*1)=a0a (l.take n):=by simp[a0a,List.map_take]
theorem j0t (l:List UInt8)(n:Nat):(a0a l).drop (n*1)=a0a (l.drop n):=by simp[a0a,List.map_drop]
theorem f0P {l:List UInt8}{a c n m:Nat}(h:a=n)(h2:c=m):((a0a l).drop (a*1)).take (c*1)=a0a ((l.drop n).take m):=by subst h;subst h2;simp[a0a,List.map_drop,List.map_take]
@[simp] theorem r0f (l:List UInt8) (n:Nat):(a0a l).take n=a0a (l.take n):=by simp[a0a,List.map_take]
@[simp] theorem s0s (l:List UInt8) (n:Nat):(a0a l).drop n=a0a (l.drop n):=by simp[a0a,List.map_drop]
section
variable {P:Program}{E:Env}{H:List HE}{N:Nat}{o:Oper}
theorem _root_.Go.Proofs.YtojomcdjcpmnkaaGreat.A.O.sliceToB {T:Nat}{x y:Operand}{k:Nat}{kk:IntKind}{z:Int}{l:List UInt8}{U bs:Nat}{zz:Value}[hs:TyS P T U 1 bs zz](ho:o.op= .slice T x none (some y) none)(hx:ev E x=some (roB l))(hy:ev E y=some (.val (.int kk z)))(hz:z=(k:Int))(hk:k≤l.length):OpW P N o E H (Is (roB (l.take k))):=by
 have:=O.sliceTo (P:=P) (k:=k) (H:=H) (N:=N) ho hx hy hz hk (j0s l k)
 rwa [b0r (by simp;omega) rfl]at this
theorem _root_.Go.Proofs.YtojomcdjcpmnkaaGreat.A.O.sliceFromB {T:Nat}{x y:Operand}{k:Nat}{kk:IntKind}{z:Int}{l:List UInt8}{U bs:Nat}{zz:Value}[hs:TyS P T U 1 bs zz](ho:o.op= .slice T x (some y) none none)(hx:ev E x=some (roB l))(hy:ev E y=some (.val (.int kk z)))(hz:z=(k:Int))(hk:k≤l.length):OpW P N o E H (Is (roB (l.drop k))):=by
 have:=O.sliceFrom (P:=P) (k:=k) (H:=H) (N:=N) ho hx hy hz hk (by simp) (j0t l k)
 rwa [b0r (by simp) rfl]at this
theorem _root_.Go.Proofs.YtojomcdjcpmnkaaGreat.A.O.sliceLHB {T:Nat}{x y y':Operand}{lo hi:Nat}{kk kk':IntKind}{z z':Int}{l:List UInt8}{U bs:Nat}{zz:Value}[hs:TyS P T U 1 bs zz](ho:o.op= .slice T x (some y) (some y') none)(hx:ev E x=some (roB l))(hy:ev E y=some (.val (.int kk z)))(hy':ev E y'=some (.val (.int kk' z')))(hz:z=(lo:Int))(hz':z'=(hi:Int))(hlh:lo≤hi)(hhn:hi≤l.length):OpW P N o E H (Is (roB ((l.drop lo).take (hi-lo)))):=by
 have:=O.sliceLH (P:=P) (l:=lo) (h:=hi) (H:=H) (N:=N) ho hx hy hy' hz hz' hlh hhn (f0P rfl rfl)
 rwa [b0r (by simp;omega) rfl]at this
end
structure Opt where
 num:Int
 val:List UInt8
 deriving DecidableEq
structure Msg where
 ty:Int
 code:Int
 id:Int
 tok:List UInt8
 opts:List Opt
 pay:List UInt8
 deriving DecidableEq
def Opt.none:Opt:=⟨0,[]⟩
def Msg.none:Msg:=⟨0,0,0,[],[],[]⟩
def n0R (o:Opt):List AV:= [.val (.int .i64 o.num),roB o.val]
theorem b0Q (o:Opt):(n0R o).length=2:=rfl
def a0C (os:List Opt):List AV:=os.flatMap n0R
def roO (os:List Opt):AV:= .ro false os.length (a0C os)
def u0k (m:Msg):List AV:= [.val (.int .i64 m.ty),.val (.int .i64 m.code),.val (.int .i64 m.id),roB m.tok,roO m.opts,roB m.pay]
abbrev b0n (m:Msg):AV:= .agg [.val (.int .i64 m.ty),.val (.int .i64 m.code),.val (.int .i64 m.id),roB m.tok,roO m.opts,roB m.pay]
abbrev w0e (o:Opt):AV:= .agg [.val (.int .i64 o.num),roB o.val]
theorem a0s (l:List UInt8):(roB l).cells= [roB l]:=rfl
theorem a0r (l:List Int):(roI l).cells= [roI l]:=rfl
theorem a0u (l:List Opt):(roO l).cells= [roO l]:=rfl
abbrev oat (os:List Opt)(k:Nat):Opt:=os.getD k Opt.none
@[simp] theorem m0X (os:List Opt):(a0C os).length=os.length*2:=e0Y b0Q os
theorem i0b (a b:List Opt):a0C (a++b)=a0C a++a0C b:=k0s a b
theorem a0M (a:List Opt)(o:Opt):a0C (a++[o])=a0C a++[.val (.int .i64 o.num),roB o.val]:=f0C a o
theorem b0T (os:List Opt):(a0C os).all AV.one=true:=by
 induction os with
 |nil=>rfl
 |cons o os ih=>rw[a0C,List.flatMap_cons,List.all_append];rw[a0C]at ih;rw[ih];rfl
theorem v0P {os:List Opt}{k:Nat}(h:k<os.length){j:Nat}(hj:j=k):((a0C os).drop (j*2)).take 2= [.val (.int .i64 (oat os k).num),roB (oat os k).val]:=e0m b0Q Opt.none h hj
theorem s0r {os:List Opt}{k:Nat}(h:k<os.length){j:Nat}(hj:j=k*2):(a0C os)[j]? =some (.val (.int .i64 (oat os k).num)):=i0k b0Q Opt.none h (c:=0) (by omega) hj
theorem v0p {os:List Opt}{k:Nat}(h:k<os.length){j:Nat}(hj:j=k*2+1):(a0C os)[j]? =some (roB (oat os k).val):=i0k b0Q Opt.none h (c:=1) (by omega) hj
def i0y:List UInt8→List UInt8→Int
 |x::a,y::b=>if x=y then i0y a b else if x.toNat<y.toNat then -1 else 1
 | [],[]=>0
 | [],_=> -1
 |_,[]=>1
theorem i0x: ∀{a b:List UInt8},i0y a b=0↔a=b
 | [],[]=>by simp[i0y]
 | [],_::_=>by simp[i0y]
 |_::_,[]=>by simp[i0y]
 | x::a,y::b=>by
  unfold i0y
  split
  ·rename_i h
   rw[i0x,h];simp
  rename_i h
  simp only[List.cons.injEq,h,false_and,iff_false]
  split<;>omega
theorem n0M {a b:List UInt8}{k:Nat}(h1:k<a.length)(h2:k<b.length):
  i0y (a.drop k) (b.drop k)=if bt a k=bt b k then i0y (a.drop (k+1)) (b.drop (k+1))else if(bt a k).toNat<(bt b k).toNat then -1 else 1:=by
 rw[f0L h1,f0L h2,i0y]
theorem p0Q {a b:List UInt8}{k:Nat}(h1:k≤a.length)(h2:k≤b.length)(h:k<a.length→b.length≤k):i0y (a.drop k) (b.drop k)=if a.length<b.length then -1 else if b.length<a.length then 1 else 0:=by
 rcases Nat.lt_or_eq_of_le h1 with h3|h3
 ·have h4:b.length=k:=by have:=h h3;omega
  have e:b.drop k= []:=List.drop_of_length_le (by omega)
  rw[f0L h3,e,if_neg (by omega),if_pos (by omega)]
  simp[i0y]
 have e:a.drop k= []:=List.drop_of_length_le (by omega)
 rw[e]
 rcases Nat.lt_or_eq_of_le h2 with h5|h5
 ·rw[f0L h5,if_pos (by omega)];simp[i0y]
 have e:b.drop k= []:=List.drop_of_length_le (by omega)
 rw[e,if_neg (by omega),if_neg (by omega)];simp[i0y]
theorem l0y (a b:List UInt8):Sp Tryz.prog 79 [roB a,roB b] [] (Is (.val (.int .i64 (i0y a b)))):=by
 refine yH Tryz.func79 _ Tryz.ntmps79 (fun w0 R0=> ?_)
 refine AW.g ?_
 refine G.lenRo (t:=0) rfl (fun hm1=> ?_)
 refine AW.u ?_
 refine AW.g ?_
 refine G.lenRo (t:=1) rfl (fun hm2=> ?_)
 refine AW.u ?_
 unfold maxLen at hm1 hm2
 refine zC (zq ?_)
 refine zc (zH (zn (zC (zC (zq ?_)))))
 refine zc (zH (zn (xb ?_)))
 refine xT [(0,_),(1,_)] (fun nn E H=> ∃(k:Nat),(k≤a.length)∧(k≤b.length)∧(i0y a b=i0y (a.drop k) (b.drop k))∧nn=a.length-k∧E= [(5,.val (.int .i64 (k:Int)))]∧H= []) _ (⟨0,by omega,by omega,rfl,rfl,rfl,rfl⟩) ?_
 rintro nn E H ⟨k,h1,h2,hc,rfl,rfl,rfl⟩
 dsimp only[cA,cN]
 refine zC (zC (zq ?_))
 refine zb ?_
 refine zb ?_
 refine zZ ?_
 refine zR ?_
 refine zb ?_
 refine yl ?_
 refine yl ?_
 refine yg 12 ?_
 refine AO.opG rfl rfl rfl (fun hp=>wP 11 rfl (by exact hp) (wP 13 rfl (by exact hp) yp)) ?_
 refine zN (zH (zn ?_))
 refine ym (fun h=> ?_) (fun h=> ?_)<;>(try simp only[vU]at h)
 ·have h3:k<a.length:=by omega
  have h4:k<b.length:=by omega
  rw[n0M h3 h4]at hc
  refine yU (zn (zC (xb (zC ?_))))
  refine yo 9 ?_
  simp only[cT,cZ,cD,cO]
  refine zE ?_
  refine zE ?_
  refine xd ?_
  refine vP vA ?_
  refine zE ?_
  refine zE ?_
  refine xd ?_
  refine vP vA ?_
  refine vP xn ?_
  refine vf ?_
  simp only[a0g,cN,cA,cP]
  refine zH (zn ?_)
  refine ym (fun h5=> ?_) (fun h5=> ?_)<;>(try simp only[vU]at h5)
  ·rw[if_neg (fun e=>h5 (by rw[e]))]at hc
   refine zC (zC ?_)
   refine yo 9 ?_
   simp only[cT,cZ,cD,cO]
   refine zE ?_
   refine zE ?_
   refine xd ?_
   refine vP vA ?_
   refine zE ?_
   refine zE ?_
   refine xd ?_
   refine vP vA ?_
   refine vP yp ?_
   refine vf ?_
   simp only[a0g,cN,cA,cP]
   refine zH (zn ?_)
   refine ym (fun h6=> ?_) (fun h6=> ?_)<;>(try simp only[vU]at h6)
   ·rw[if_pos (by omega)]at hc
    refine zC (zq ?_)
    refine zc (zH (zn (y3 (xh ?_))))
    refine wg (xh ?_)
    refine AQ.loopR ?_
    refine wg (xh ?_)
    refine vm rfl rfl nS (⟨congrArg (fun z=>AV.val (.int .i64 z)) hc.symm,rfl⟩)
   rw[if_neg (by omega)]at hc
   refine yU (zn (zC (zq ?_)))
   refine zc (zH (zn (y3 ?_)))
   refine wg (xh ?_)
   refine AQ.loopR ?_
   refine wg (xh ?_)
   refine vm rfl rfl nS (⟨congrArg (fun z=>AV.val (.int .i64 z)) hc.symm,rfl⟩)
  rw[if_pos (u8_eq.1 h5)]at hc
  refine yU (xA (zn (zq ?_)))
  refine zb ?_
  refine zx ?_
  refine zc (zH ?_)
  refine xP _ _ _ (by omega) (⟨k+1,by omega,by omega,hc,rfl,rfl,rfl⟩)
 rw[p0Q h1 h2 (fun _=>by omega)]at hc
 refine wm ?_
 refine xY ?_
 refine wa ?_
 refine xq (zn (zC (xb (zC (zq ?_)))))
 refine zb ?_
 refine zZ ?_
 refine zb ?_
 refine zZ ?_
 refine zR ?_
 refine zc (zH (zn ?_))
 refine ym (fun h5=> ?_) (fun h5=> ?_)<;>(try simp only[vU]at h5)
 ·rw[if_pos (by omega)]at hc
  refine zC (zq ?_)
  refine zc (zH (zn (y3 ?_)))
  refine wg (xh ?_)
  refine vm rfl rfl nS (⟨congrArg (fun z=>AV.val (.int .i64 z)) hc.symm,rfl⟩)
 rw[if_neg (by omega)]at hc
 refine zC (zq ?_)
 refine zb ?_
 refine zZ ?_
 refine zb ?_
 refine zZ ?_
 refine yN ?_
 refine zc (zH (zn ?_))
 refine ym (fun h6=> ?_) (fun h6=> ?_)<;>(try simp only[vU]at h6)
 ·rw[if_pos (by omega)]at hc
  refine zC (zq ?_)
  refine zc (zH (zn (y3 ?_)))
  refine wg (xh ?_)
  refine vm rfl rfl nS (⟨congrArg (fun z=>AV.val (.int .i64 z)) hc.symm,rfl⟩)
 rw[if_neg (by omega)]at hc
 refine yU (xA (zn (zC (zq ?_))))
 refine zc (zH (zn (y3 ?_)))
 refine vm rfl rfl nS (⟨congrArg (fun z=>AV.val (.int .i64 z)) hc.symm,rfl⟩)
theorem a0Y (a b:List UInt8):Sp Tryz.prog 31 [roB a,roB b] [] (Is (.val (.bool (a==b)))):=by
 refine yH Tryz.func31 _ Tryz.ntmps31 (fun w0 R0=> ?_)
 refine zC (zq ?_)
 refine zc (zH (zn (zC (zq ?_))))
 refine zb ?_
 refine zb ?_
 refine vO (xD rfl Tryz.func79 rfl rfl rfl (l0y _ _)) ?_
 refine yi ?_
 refine zb ?_
 refine yl ?_
 refine yg 10 ?_
 refine yl ?_
 refine yg 12 ?_
 refine AO.opG rfl rfl rfl (fun hp=>wP 11 rfl (by exact hp) (wP 13 rfl (by exact hp) yE)) ?_
 refine zN ?_
 refine zc (zH (zn (y3 ?_)))
 have e:((i0y a b==0)&&((a.length:Int)==(b.length:Int)))=(a==b):=by
  rw[Bool.eq_iff_iff]
  simp only[Bool.and_eq_true,beq_iff_eq,i0x]
  constructor
  ·exact fun h=>h.1
  rintro rfl;exact⟨rfl,rfl⟩
 refine vm rfl rfl nS (⟨congrArg (fun z=>AV.val (.bool z)) e,rfl⟩)
theorem a0o (l:List UInt8)(hl:l.length≤140737488355328):Sp Tryz.prog 69 [roB l] [] (Is (roB l)):=by
 refine yH Tryz.func69 _ Tryz.ntmps69 (fun w0 R0=> ?_)
 refine zC (zq ?_)
 refine zc (zH (zn (zC (zq ?_))))
 refine zb ?_
 refine yA ?_
 intro V hV
 refine zc (zH (zn (y3 ?_)))
 refine AQ.g ?_
 refine yL 0 [2] ?_
 refine AQ.u ?_
 dsimp only[List.map,List.eraseIdx,cA,cN]
 refine vm rfl rfl nS (⟨b0r (by simp) (by simp),rfl⟩)
def l0D (n:Nat)(out:List UInt8):List UInt8:=if h:n=0 then out else l0D (n/256) (u8 (n:Int)::out)
termination_by n
decreasing_by omega
def b0N (n:Int):List UInt8:=if n<0∨1099511627775<n then []else l0D (n.toNat/256) [u8 n]
theorem a0U (out:List UInt8):l0D 0 out=out:=by unfold l0D;simp
theorem a0T {n:Nat}(h:n≠0)(out:List UInt8):l0D n out=l0D (n/256) (u8 (n:Int)::out):=by rw[l0D,dif_neg h]
theorem k0C: ∀(k n:Nat) (out:List UInt8),n<256^k→(l0D n out).length≤out.length+k
 |0,n,out,h=>by
  obtain rfl:n=0:=by simpa using h
  rw[a0U];simp
 |k+1,n,out,h=>by
  by_cases h0:n=0
  ·subst h0;rw[a0U];simp
  rw[a0T h0]
  have:=k0C k (n/256) (u8 (n:Int)::out) (by rw[Nat.pow_succ]at h;omega)
  simp at this⊢;omega
theorem d0a (n:Int):(b0N n).length≤5:=by
 unfold b0N
 split
 ·simp
 have:=k0C 4 (n.toNat/256) [u8 n] (by omega)
 simpa using this
def m0H (n:Int)(s:Nat)(out:List UInt8):List UInt8:=if 0<out.length∨(u8 (n/256^s)≠0)∨s=0 then out++[u8 (n/256^s)]else out
def rGo (n:Int):Nat→List UInt8
 |0=> []
 |k+1=>m0H n (4-k) (rGo n k)
theorem f0j (x:Int):u8 x=0↔x%256=0:=by
 constructor
 ·intro h
  have:=c0c x
  rw[h]at this
  simpa using this.symm
 intro h;unfold u8;rw[h];rfl
theorem r0N {n:Int}(h0:0≤n)(h1:n≤1099511627775):rGo n 5=b0N n:=by
 obtain⟨m,rfl⟩: ∃m:Nat,n=(m:Int):=⟨n.toNat,by omega⟩
 have nz: ∀x:Int,x%256≠0→ ¬u8 x=0:=fun x h e=>h ((f0j x).1 e)
 have yz: ∀x:Int,x%256=0→u8 x=0:=fun x h=>(f0j x).2 h
 have q:(m:Int)/256^0=(m:Int):=by simp
 have s1:((m/256:Nat):Int)=(m:Int)/256:=by omega
 have s2:((m/65536:Nat):Int)=(m:Int)/65536:=by omega
 have s3:((m/16777216:Nat):Int)=(m:Int)/16777216:=by omega
 have s4:((m/4294967296:Nat):Int)=(m:Int)/4294967296:=by omega
 unfold b0N
 rw[if_neg (by omega)]
 simp only[rGo,m0H,Nat.reduceSub,Int.reducePow,Int.toNat_natCast,q]
 by_cases a4:m/4294967296=0
 ·have e4:=yz ((m:Int)/4294967296) (by omega)
  by_cases a3:m/16777216=0
  ·have e3:=yz ((m:Int)/16777216) (by omega)
   by_cases a2:m/65536=0
   ·have e2:=yz ((m:Int)/65536) (by omega)
    by_cases a1:m/256=0
    ·have e1:=yz ((m:Int)/256) (by omega)
     rw[a1,a0U]
     simp[e4,e3,e2,e1]
    have e1:=nz ((m:Int)/256) (by omega)
    rw[a0T a1,show m/256/256=0 by omega,a0U,s1]
    simp[e4,e3,e2,e1]
   have e2:=nz ((m:Int)/65536) (by omega)
   rw[a0T (by omega),a0T (by omega),show m/256/256/256=0 by omega,a0U,show m/256/256=m/65536 by omega,s1,s2]
   simp[e4,e3,e2]
  have e3:=nz ((m:Int)/16777216) (by omega)
  rw[a0T (by omega),a0T (by omega),a0T (by omega),show m/256/256/256/256=0 by omega,a0U,show m/256/256/256=m/16777216 by omega,show m/256/256=m/65536 by omega,s1,s2,s3]
  simp[e4,e3]
 have e4:=nz ((m:Int)/4294967296) (by omega)
 rw[a0T (by omega),a0T (by omega),a0T (by omega),a0T (by omega),show m/256/256/256/256/256=0 by omega,a0U,show m/256/256/256/256=m/4294967296 by omega,show m/256/256/256=m/16777216 by omega,show m/256/256=m/65536 by omega,s1,s2,s3,s4]
 simp[e4]
theorem m0I (n:Int): ∀k,(rGo n k).length≤k
 |0=>Nat.le_refl _
 |k+1=>by
  have:=m0I n k
  unfold rGo m0H
  split
  ·simp;omega
  omega
end Go.Proofs.YtojomcdjcpmnkaaGreat.By
namespace Go.Proofs.YtojomcdjcpmnkaaGreat.A
open Go.RowKit L
section
variable {Γ:Cx}{P:Program}{Q:Exit→Act→World→Prop}{E:Env}{H:List HE}
theorem G.freezeK {X:Act→World→Prop}(i:Nat){v:Value}{T sz n:Nat}{xs:List AV}(hi:H[i]? =some (.row v T sz n xs))
  (k: ∀R a W,RelS Γ R (H.eraseIdx i) W→RelA Γ.N R W E a→RelV R W (.ro false n xs) v→X a W):G Γ E H X:=fun R a W hs ha=>by
 have hmem:=List.mem_of_getElem? hi
 obtain⟨hlt,he⟩:=List.getElem?_eq_some_iff.1 hi
 have hsub:(H.eraseIdx i).Sublist H:=List.eraseIdx_sublist _ _
 have hdis: ∀f∈H.eraseIdx i,∀b,f.foot b→ ¬(HE.row v T sz n xs).foot b:=fun f hf b hb hb'=>by
  obtain⟨j,hj,rfl⟩:=List.getElem_of_mem hf
  rw[List.getElem_eraseIdx]at hb
  rw[List.length_eraseIdx,if_pos hlt]at hj
  split at hb
  ·exact(List.pairwise_iff_getElem.1 hs.disj j i (by omega) hlt (by omega)) b hb (by rw[he];exact hb')
  ·exact(List.pairwise_iff_getElem.1 hs.disj i (j+1) hlt (by omega) (by omega)) b (by rw[he];exact hb') hb
 have hRS: ∀b,R b→R b∨(HE.row v T sz n xs).foot b:=fun b h=> .inl h
 obtain⟨us,hown,hr⟩:=hs.ok _ hmem
 refine k (fun b=>R b∨(HE.row v T sz n xs).foot b) a W ⟨hs.mods,?_,fun b hb=> .inl (hs.rsub b hb),?_,fun e he=>HE.ok_mono hRS (fun _ _=>rfl) (Nat.le_refl _) (fun _ _=>rfl) (hs.ok e (hsub.subset he)),?_,hs.disj.sublist hsub⟩ (ha.mono hRS (fun _ _=>rfl)) ?_
 ·rintro b (hb|hb)
  ·exact hs.rlt b hb
  ·exact HE.ok_lt (hs.ok _ hmem) hb
 ·rintro b (hb|hb)
  ·exact hs.rnew b hb
  ·exact .inr (hs.own _ hmem b hb).1
 ·intro e he b hb
  refine⟨(hs.own e (hsub.subset he) b hb).1,?_⟩
  rintro(h|h)
  ·exact(hs.own e (hsub.subset he) b hb).2 h
  ·exact hdis e he b hb h
 ·have hr':=hr.mono hRS (W':=W) (fun _ _=>rfl)
  rcases hown.2 with⟨rfl,rfl⟩|⟨g,cap,cur,rfl,hbg,hg,h1,h2,h3,h4⟩
  ·have:xs= []:=List.eq_nil_of_length_eq_zero (by rw[←hr.1,hown.1];simp)
   subst this
   exact .emp _ _ _ (fun h=>by cases h) (Nat.zero_le _)
  ·refine .ro false n xs g 0 cap (fun j=>us.getD j undef) (.inr rfl) (fun j hj=> ?_) (fun j hj=>hr'.2 j hj) h1 h2 (fun h=>by cases h)
   have hj':j<us.length:=by rw[hr.1];exact hj
   have:=hown.cells (g:=g) rfl j us[j] (by simp[hj'])
   rw[a0H]at this
   rw[this]
   simp[List.getD,hj']
theorem G.freezeCell {X:Act→World→Prop}(i j c:Nat){v:Value}{T sz n:Nat}{xs:List AV}{b T' room:Nat}{ys:List AV}(hi:H[i]? =some (.row v T sz n xs))(hj:(H.eraseIdx i)[j]? =some (.blk b T' room ys))(hc:ys[c]? =some (.val v))
  (k:G Γ E ((H.eraseIdx i).set j (.blk b T' room (ys.set c (.ro false n xs)))) X):G Γ E H X:=G.freezeK i hi fun R a W hs ha hv=>by
 obtain⟨us,cs,h1,h2,h3,h4⟩:=hs.ok _ (List.mem_of_getElem? hj)
 obtain⟨u,hu1,hu2⟩:=h4.get hc
 have hu3:=hu2.val_inv
 subst hu3
 refine k R a W (hs.setSame hj (fun b hb=>hb) ⟨us,cs,h1,h2,by rw[List.length_set];exact h3,?_⟩) ha
 have h5:=h4.set c hv
 rwa [show us.set c u=us from List.ext_getElem? fun q=>by
  rcases Nat.decEq c q with h|h
  ·rw[List.getElem?_set_ne h]
  ·subst h;rw[List.getElem?_set_self (List.getElem?_eq_some_iff.1 hu1).1,hu1]]at h5
theorem G.coeCell {X:Act→World→Prop}(j c:Nat){b T' room:Nat}{ys:List AV}{u w:AV}(hj:H[j]? =some (.blk b T' room ys))(hc:ys[c]? =some u)(hw:Coe u w)
  (k:G Γ E (H.set j (.blk b T' room (ys.set c w))) X):G Γ E H X:=fun R a W hs ha=>by
 obtain⟨us,cs,h1,h2,h3,h4⟩:=hs.ok _ (List.mem_of_getElem? hj)
 obtain⟨z,hu1,hu2⟩:=h4.get hc
 refine k R a W (hs.setSame hj (fun b hb=>hb) ⟨us,cs,h1,h2,by rw[List.length_set];exact h3,?_⟩) ha
 have h5:=h4.set c (hw R W _ hu2)
 rwa [show us.set c z=us from List.ext_getElem? fun q=>by
  rcases Nat.decEq c q with h|h
  ·rw[List.getElem?_set_ne h]
  ·subst h;rw[List.getElem?_set_self (List.getElem?_eq_some_iff.1 hu1).1,hu1]]at h5
end
section
variable {P:Program}{ops:Array Oper}{N:Nat}
structure MJ (P:Program) (Γ:Cx) (ops:Array Oper) (Hs:List HE) (K:Env→List HE→Prop) (ord:List (Nat×Bool)) (late:List Nat) (listed:Array Bool) (A:Act) (W:World) (pre ms:List (Nat×Bool)) (Pd:List Nat) (E:Env) (H:List HE) (R:Nat→Prop):Prop where
 size:listed.size=ops.size
 closed:c0q ops listed
 part: ∀i,i<ops.size→(listed.getD i false=false↔i∈Pd∨i∈ms.map Prod.fst∨i∈late)
 ord:ord=pre++ms
 pdp: ∀i∈Pd,(i,false)∈pre
 am:AM P Γ.N ops Hs K ms E H
 pend: ∀i∈Pd,∃o d v,ops[i]? =some o∧o.dst=some d∧d<Γ.N∧a0q E d=some v∧OpF P Γ.N ops o (rst E (o.looksAt ops)) Hs (Is v)
 rels:RelS Γ R (H++Hs) W
 defers:A.defers= []
 tmps:A.tmps.size=Γ.N
 act: ∀t v,a0q E t=some v→(∀i∈Pd,∀o,ops[i]? =some o→o.dst≠some t)→RelV R W v (A.eval (.tmp t))
variable {Γ:Cx}{Hs:List HE}{K:Env→List HE→Prop}{ord:List (Nat×Bool)}{late:List Nat}
theorem MJ.absorb {listed:Array Bool}{A:Act}{W:World}{R:Nat→Prop}(hok:a0W ops (c0G ops.toList []) ord=true): ∀(ms pre:List (Nat×Bool)) (Pd:List Nat) (E:Env) (H:List HE),MJ P Γ ops Hs K ord late listed A W pre ms Pd E H R→
  ∃pre' ms' Pd' E',MJ P Γ ops Hs K ord late listed A W pre' ms' Pd' E' H R∧(ms'= []∨ ∃m r,ms'=(m,true)::r)
 | [],pre,Pd,E,H,h=>⟨pre,[],Pd,E,h,.inl rfl⟩
 |(m,true)::r,pre,Pd,E,H,h=>⟨pre,_,Pd,E,h,.inr ⟨m,r,rfl⟩⟩
 | (j,false)::r,pre,Pd,E,H,h=>by
  obtain⟨o,d,v,ho,hd,hN,hop,ham⟩:=h.am
  have hord:=h.ord
  have hq:=a0l (pre:=pre) (r:=(j,false)::r) (by rw[←hord];exact hok)
  have hself:d∉o.looksAt ops:=by
   have:=hq.1
   rw[a0W]at this
   simp only[Bool.and_eq_true,ho,hd,Bool.false_or]at this
   simpa using this.1.1
  have hp: ∀i∈Pd,∀oi,ops[i]? =some oi→d∉oi.looksAt ops∧oi.dst≠some d:=fun i hi oi hoi=>by
   have:=b0B (hq.2 _ (h.pdp i hi) (j,false) (List.mem_cons_self ..)) hoi ho
   obtain⟨d',h1,h2,h3⟩:=this.flt rfl
   rw[hd]at h1
   cases h1
   exact⟨h2,h3⟩
  refine MJ.absorb hok r (pre++[(j,false)]) (j::Pd) ((d,v)::E) H ⟨h.size,h.closed,fun i hi=> ?_,by rw[hord];simp,fun i hi=> ?_,ham,fun i hi=> ?_,h.rels,h.defers,h.tmps,fun t x ht hpd=> ?_⟩
  ·rw[h.part i hi]
   simp only[List.map_cons,List.mem_cons]
   constructor
   ·rintro(h|(h|h)|h)
    ·exact .inl (.inr h)
    ·exact .inl (.inl h)
    ·exact .inr (.inl h)
    ·exact .inr (.inr h)
   ·rintro((h|h)|h|h)
    ·exact .inr (.inl (.inl h))
    ·exact .inl h
    ·exact .inr (.inl (.inr h))
    ·exact .inr (.inr h)
  ·rcases List.mem_cons.1 hi with rfl|hi
   ·simp
   ·exact List.mem_append_left _ (h.pdp i hi)
  ·rcases List.mem_cons.1 hi with rfl|hi
   ·exact⟨o,d,v,ho,hd,hN,b0o,by rw[b0c hself];exact hop⟩
   ·obtain⟨oi,di,vi,h1,h2,h3,h4,h5⟩:=h.pend i hi
    obtain⟨h6,h7⟩:=hp i hi oi h1
    refine⟨oi,di,vi,h1,h2,h3,?_,by rw[b0c h6];exact h5⟩
    rw[a0J (fun e=>h7 (by rw[h2,e]))];exact h4
  ·have hne:d≠t:=fun e=>hpd j (List.mem_cons_self ..) o ho (by rw[hd,e])
   rw[a0J hne]at ht
   exact h.act t x ht fun i hi=>hpd i (List.mem_cons_of_mem _ hi)
theorem MJ.reads {listed:Array Bool}{A:Act}{W:World}{R:Nat→Prop}{pre ms:List (Nat×Bool)}{Pd:List Nat}{E:Env}{H:List HE}(hok:a0W ops (c0G ops.toList []) ord=true)(h:MJ P Γ ops Hs K ord late listed A W pre ms Pd E H R)
  {i:Nat} {b:Bool} {o:Oper} (ho:ops[i]? =some o) (hdeps: ∀e∈o.after,Region.binds .any e=true→listed.getD e.on false=true) (hi:(i,b)∈pre∧i∈Pd∧b=false∨ ∃r,ms=(i,b)::r):RelA Γ.N R W (rst E (o.looksAt ops)) A:=by
 refine⟨h.defers,h.tmps,fun t v ht=> ?_⟩
 obtain⟨htl,ht⟩:=c0y ht
 refine h.act t v ht fun k hk ok hok' hdk=> ?_
 have hkp:=h.pdp k hk
 have hkf:listed.getD k false=false:=(h.part k (Array.getElem?_eq_some_iff.1 hok').1).2 (.inl hk)
 have direct:e0h ops (c0G ops.toList []) k false i b=true→False:=fun hp=>by
  obtain⟨e,he,hb,hon⟩:=(b0B hp hok' ho).reads t hdk htl
  have:=hdeps e he hb
  rw[hon,hkf]at this;cases this
 rcases hi with⟨hip,hiP,rfl⟩|⟨r,hms⟩
 ·
  obtain⟨p1,p2,hp12⟩:=List.append_of_mem hkp
  have hord:=h.ord
  rw[hp12,List.append_assoc]at hord
  rw[hp12]at hip
  rcases List.mem_append.1 hip with hip|hip
  ·
   have hq:=a0l (pre:=p1) (by rw[←hord];exact hok)
   have:=b0B (hq.2 _ hip (k,false) (List.mem_cons_self ..)) ho hok'
   obtain⟨d',h1,h2, -⟩:=this.flt rfl
   rw[hdk]at h1;cases h1
   exact h2 htl
  ·rcases List.mem_cons.1 hip with he|hip
   ·cases he
    have hq:=(a0l (pre:=p1) (by rw[←hord];exact hok)).1
    rw[cA,a0W]at hq
    simp only[Bool.and_eq_true]at hq
    obtain rfl:o=ok:=by rw[ho]at hok';exact Option.some.inj hok'
    have:=hq.1.1
    rw[ho]at this
    simp only[hdk,Bool.false_or]at this
    simp at this
    exact this htl
   ·rw[show p1++((k,false)::p2++ms)=(p1++[(k,false)])++(p2++ms) by simp]at hord
    have hq:=a0l (pre:=p1++[(k,false)]) (by rw[←hord];exact hok)
    exact direct (hq.2 (k,false) (by simp) (i,false) (List.mem_append_left _ hip))
 ·have hq:=a0l (pre:=pre) (r:=ms) (by rw[←h.ord];exact hok)
  exact direct (hq.2 _ hkp (i,b) (by rw[hms];exact List.mem_cons_self ..))
theorem MJ.stage {Q:Exit→Act→World→Prop}(hback: ∀i o,ops[i]? =some o→ ∀e∈o.after,Region.binds .any e=true→e.on<i)(hpairs:a0W ops (c0G ops.toList []) ord=true)(hlt: ∀q∈ord,q.1<ops.size)
  (hlate: ∀j∈late,∀q∈ord,q.1∈(c0G ops.toList []).getD j [])
  (hfin: ∀(listed:Array Bool) (A:Act) (W:World) (E:Env) (H:List HE) (R:Nat→Prop),listed.size=ops.size→c0q ops listed→(∀i,i<ops.size→(listed.getD i false=false↔i∈late))→RelS Γ R (H++Hs) W→RelA Γ.N R W E A→K E H→wpAny P .any ops Q (listed.toList.count false) listed A W):
  ∀(fuel:Nat) (listed:Array Bool) (A:Act) (W:World) (pre ms:List (Nat×Bool)) (Pd:List Nat) (E:Env) (H:List HE) (R:Nat→Prop),fuel=listed.toList.count false→
   MJ P Γ ops Hs K ord late listed A W pre ms Pd E H R→(ms= []∨ ∃m r,ms=(m,true)::r)→wpAny P .any ops Q fuel listed A W:=by
 intro fuel
 induction fuel with
 | zero=>
  intro listed A W pre ms Pd E H R hc hI hhd
  have hlist: ∀i,i<ops.size→listed.getD i false=true:=by
   intro i hi
   have hi':i<listed.size:=by rw[hI.size];exact hi
   cases hb:listed.getD i false with
   |true=>rfl
   | false=>
    exfalso
    have hm:false∈listed.toList:=by
     rw[←hb];simp[Array.getD,hi']
    have:=List.count_pos_iff.2 hm
    omega
  have hms:ms= []:=by
   rcases hhd with h|⟨m,r,h⟩
   ·exact h
   ·have h1:=hlt (m,true) (by rw[hI.ord,h];simp)
    have:=(hI.part m h1).2 (.inr (.inl (by rw[h];simp)))
    rw[hlist m h1]at this;cases this
  have hPd:Pd= []:=by
   rw[List.eq_nil_iff_forall_not_mem]
   intro i hi
   have h1:=hlt (i,false) (by rw[hI.ord];exact List.mem_append_left _ (hI.pdp i hi))
   have:=(hI.part i h1).2 (.inl hi)
   rw[hlist i h1]at this;cases this
  subst hms
  subst hPd
  rw[hc]
  exact hfin listed A W E H R hI.size hI.closed (fun i hi=>by rw[hI.part i hi];simp) hI.rels ⟨hI.defers,hI.tmps,fun t v ht=>hI.act t v ht fun i hi=>(by cases hi)⟩ hI.am
 | succ fuel ih=>
  intro listed A W pre ms Pd E H R hc hI hhd
  by_cases hemp:ms= []∧Pd= []
  ·obtain⟨rfl,rfl⟩:=hemp
   rw[hc]
   exact hfin listed A W E H R hI.size hI.closed (fun i hi=>by rw[hI.part i hi];simp) hI.rels ⟨hI.defers,hI.tmps,fun t v ht=>hI.act t v ht fun i hi=>(by cases hi)⟩ hI.am
  have hun: ∃q∈ord,listed.getD q.1 false=false:=by
   rcases hhd with h|⟨m,r,h⟩
   ·cases Pd with
    |nil=>exact absurd ⟨h,rfl⟩ hemp
    |cons p Pd=>
     have h1:(p,false)∈ord:=by rw[hI.ord];exact List.mem_append_left _ (hI.pdp p (List.mem_cons_self ..))
     exact⟨_,h1,(hI.part p (hlt _ h1)).2 (.inl (List.mem_cons_self ..))⟩
   ·have h1:(m,true)∈ord:=by rw[hI.ord,h];simp
    exact⟨_,h1,(hI.part m (hlt _ h1)).2 (.inr (.inl (by rw[h];simp)))⟩
  have hne: ∃i,i∈Region.ready .any ops listed:=by
   have hex: ∃i,i<ops.size∧listed.getD i false=false:=by
    have hpos:0<listed.toList.count false:=by omega
    obtain⟨i,hi,hf⟩:=List.getElem_of_mem (List.count_pos_iff.1 hpos)
    have hi':i<listed.size:=by simpa using hi
    exact⟨i,by rw[←hI.size];exact hi',by simpa[Array.getD,hi']using hf⟩
   obtain⟨i,⟨hi,hf⟩,hmin⟩: ∃i,(i<ops.size∧listed.getD i false=false)∧ ∀j,j<i→ ¬(j<ops.size∧listed.getD j false=false):=by
    obtain⟨i,h⟩:=hex
    exact p0r ⟨i,h⟩
   have hio:ops[i]? =some ops[i]:=by simp[hi]
   refine⟨i,mem_ready.2 ⟨by rw[b0p (by rw[hI.size];exact hi)];exact hf,_,hio,fun e he hb=> ?_⟩⟩
   have:=hback i _ hio e he hb
   cases hb2:listed.getD e.on false with
   |true=>rfl
   |false=>exact absurd ⟨by omega,hb2⟩ (hmin e.on this)
  refine⟨fun e=>(by obtain⟨i,hi⟩:=hne;rw[e]at hi;cases hi),fun i hi=> ?_⟩
  obtain⟨h0,o,ho,hdeps⟩:=mem_ready.1 hi
  have hio:i<ops.size:=(Array.getElem?_eq_some_iff.1 ho).1
  have hf:listed.getD i false=false:=by rw[←b0p (by rw[hI.size];exact hio)];exact h0
  have hil:i<listed.size:=by rw[hI.size];exact hio
  have hanc: ∀j,j∈(c0G ops.toList []).getD i []→listed.getD j false=true:=fun j hj=>d0j hI.closed hback i o ho hdeps j hj
  have hcl:=c0o hI.closed ho hil hdeps
  have hcnt:fuel=(listed.setIfInBounds i true).toList.count false:=by
   have hcs:=a0Z listed.toList i (by simpa using hil) (by simpa[Array.getD,hil]using hf)
   simp only[Array.toList_setIfInBounds]
   omega
  have hgd: ∀k,k≠i→(listed.setIfInBounds i true).getD k false=listed.getD k false:=fun k hk=>getD_set_ne false (Ne.symm hk)
  have hgi:(listed.setIfInBounds i true).getD i false=true:=by simp[Array.getD,hil]
  have hsz:(listed.setIfInBounds i true).size=ops.size:=by simpa using hI.size
  have hnl:i∉late:=fun h=>by
   obtain⟨q,hq,hqf⟩:=hun
   have:=hanc q.1 (hlate i h q hq)
   rw[hqf]at this;cases this
  rcases(hI.part i hio).1 hf with hPd|hms|hlt'
  ·
   obtain⟨o',d,v,ho',hd,hN,hlk,hop⟩:=hI.pend i hPd
   obtain rfl:o=o':=by rw[ho]at ho';exact Option.some.inj ho'
   have hA:=hI.reads hpairs ho hdeps (b:=false) (.inl ⟨hI.pdp i hPd,hPd,rfl⟩)
   have hs:=hop R A W hI.rels.rlt (fun e he=>hI.rels.ok e (List.mem_append_right _ he)) (fun e he b hb=>(hI.rels.own e (List.mem_append_right _ he) b hb).2) hA
   have hnext: ∀u W',(∃v' Hn R',Is v v' Hn∧Post1 R W v' Hn u W' R')→wpAny P .any ops Q fuel (listed.setIfInBounds i true) (A.put o.dst u) W':=by
    rintro u W' ⟨v',Hn,R',⟨rfl,rfl⟩,hp⟩
    have hnm:i∉ms.map Prod.fst:=fun hm=>by
     obtain⟨⟨j,c⟩,hq,hji⟩:=List.mem_map.1 hm
     have hq2:=(a0l (pre:=pre) (r:=ms) (by rw[←hI.ord];exact hpairs)).2 _ (hI.pdp i hPd) _ hq
     simp only at hji
     subst hji
     exact(b0B hq2 ho ho).ne rfl
    refine ih _ _ _ pre ms (Pd.filter (· ≠i)) E H R' hcnt ⟨hsz,hcl,fun k hk=> ?_,hI.ord,fun k hk=>hI.pdp k (List.mem_filter.1 hk).1,hI.am,fun k hk=>hI.pend k (List.mem_filter.1 hk).1,by simpa using hI.rels.step hp,?_,?_,fun t x ht hpd=> ?_⟩ hhd
    ·by_cases hki:k=i
     ·subst hki
      rw[hgi]
      simp[hnm,hnl]
     ·rw[hgd k hki,hI.part k hk]
      simp[hki]
    ·rw[hd];exact hI.defers
    ·rw[hd];simp[Act.put,hI.tmps]
    ·rw[hd]
     by_cases hdt:d=t
     ·subst hdt
      rw[hlk]at ht
      cases ht
      rw[a0G (by rw[hI.tmps];exact hN)];exact hp.val
     ·rw[a0j hdt]
      refine(hI.act t x ht fun k hk ok hok hdk=> ?_).mono hp.sub (c0R hp.ext hI.rels.rlt)
      by_cases hki:k=i
      ·subst hki
       rw[ho]at hok
       cases hok
       rw[hd]at hdk
       cases hdk
       exact hdt rfl
      ·exact hpd k (List.mem_filter.2 ⟨hk,by simpa using hki⟩) ok hok hdk
   unfold wpOp
   rw[ho]
   unfold e0L at hs
   show if Region.wanted o (yielded ops A.tmps)=true then _ else _
   split
   ·rename_i hw
    rw[if_pos hw]at hs
    refine .inl (Oper.wp_mono ?_ (b0v hs))
    rintro A' W' ⟨u,rfl,hp⟩
    exact hnext u W' hp
   ·rename_i hw
    rw[if_neg hw]at hs
    exact hnext _ _ hs
  ·
   rcases hhd with rfl|⟨m,r,rfl⟩
   ·cases hms
   have hmlt:m<ops.size:=by have:=hlt (m,true) (by rw[hI.ord];simp);exact this
   have hmf:listed.getD m false=false:=(hI.part m hmlt).2 (.inr (.inl (by simp)))
   have him:i=m:=by
    rcases List.mem_cons.1 hms with h|h
    ·exact h
    ·exfalso
     obtain⟨⟨j,c⟩,hq,hji⟩:=List.mem_map.1 h
     simp only at hji
     subst hji
     have h9:=(a0l (pre:=pre++[(m,true)]) (r:=r) (by have:=hI.ord;rw[List.append_assoc,List.singleton_append,←this];exact hpairs)).2 (m,true) (by simp) _ hq
     have hom:ops[m]? =some ops[m]:=by simp[hmlt]
     have:=hanc m ((b0B h9 hom ho).main rfl)
     rw[hmf]at this;cases this
   subst him
   obtain⟨o',ho',hAO⟩:=hI.am
   obtain rfl:o=o':=by rw[ho]at ho';exact Option.some.inj ho'
   have hA:=hI.reads hpairs ho hdeps (b:=true) (.inr ⟨r,rfl⟩)
   have hs:=hAO W R R A W ⟨Mods.refl _ _,hI.rels.rlt,fun _ h=>h,fun _ h=> .inl h,fun e he=>hI.rels.ok e (List.mem_append_left _ he),fun e he b hb=>⟨.inr ⟨e,he,hb⟩,(hI.rels.own e (List.mem_append_left _ he) b hb).2⟩,(List.pairwise_append.1 hI.rels.disj).1⟩ hA
   have hnext: ∀u W',QS ⟨W,a0z H,R,Γ.N⟩ o.dst (fun v H'=>AM P Γ.N ops Hs K r (a0w o.dst v E) H') .normal (A.put o.dst u) W'→wpAny P .any ops Q fuel (listed.setIfInBounds i true) (A.put o.dst u) W':=by
    rintro u W' ⟨hdf,v,H',R',ham,hsr,hvr⟩
    obtain⟨hrel,hRW⟩:=RelS.part hI.rels hsr
    have hpd: ∀k∈Pd,∀ok,ops[k]? =some ok→ ∀d,o.dst=some d→d∉ok.looksAt ops∧ok.dst≠some d:=fun k hk ok hok d hd=>by
     have h9:=(a0l (pre:=pre) (r:=(i,true)::r) (by rw[←hI.ord];exact hpairs)).2 _ (hI.pdp k hk) (i,true) (List.mem_cons_self ..)
     have hkf:listed.getD k false=false:=(hI.part k (Array.getElem?_eq_some_iff.1 hok).1).2 (.inl hk)
     have hno:k∉(c0G ops.toList []).getD i []:=fun hm=>by
      have:=hanc k hm
      rw[hkf]at this;cases this
     exact⟨fun hm=>hno ((b0B h9 hok ho).mn rfl d hd (.inl hm)),fun he=>hno ((b0B h9 hok ho).mn rfl d hd (.inr he))⟩
    have hnr:i∉r.map Prod.fst:=fun hm=>by
     obtain⟨⟨j,c⟩,hq,hji⟩:=List.mem_map.1 hm
     have h9:=(a0l (pre:=pre++[(i,true)]) (r:=r) (by have:=hI.ord;rw[List.append_assoc,List.singleton_append,←this];exact hpairs)).2 (i,true) (by simp) _ hq
     simp only at hji
     subst hji
     exact(b0B h9 ho ho).ne rfl
    have hnp:i∉Pd:=fun hk=>by
     have h9:=(a0l (pre:=pre) (r:=(i,true)::r) (by rw[←hI.ord];exact hpairs)).2 _ (hI.pdp i hk) (i,true) (List.mem_cons_self ..)
     exact(b0B h9 ho ho).ne rfl
    have hI':MJ P Γ ops Hs K ord late (listed.setIfInBounds i true) (A.put o.dst u) W' (pre++[(i,true)]) r Pd (a0w o.dst v E) H' R':=by
     refine⟨hsz,hcl,fun k hk=> ?_,by rw[hI.ord];simp,fun k hk=>List.mem_append_left _ (hI.pdp k hk),ham,fun k hk=> ?_,hrel,hdf,?_,fun t x ht hp=> ?_⟩
     ·by_cases hki:k=i
      ·subst hki
       rw[hgi]
       simp[hnr,hnp,hnl]
      ·rw[hgd k hki,hI.part k hk]
       simp[hki]
     ·obtain⟨ok,dk,vk,h1,h2,h3,h4,h5⟩:=hI.pend k hk
      refine⟨ok,dk,vk,h1,h2,h3,?_,?_⟩
      ·cases hd:o.dst with
       |none=>exact h4
       |some d=>rw[a0w,a0J (fun e=>(hpd k hk ok h1 d hd).2 (by rw[h2,e]))];exact h4
      ·cases hd:o.dst with
       |none=>exact h5
       |some d=>rw[a0w,b0c (hpd k hk ok h1 d hd).1];exact h5
     ·cases hd:o.dst<;>simp[Act.put,hI.tmps]
     ·cases hd:o.dst with
      |none=>
       rw[hd]at ht
       exact(hI.act t x ht hp).mono hsr.rsub hRW
      | some d=>
       rw[hd,a0w]at ht
       by_cases hdt:d=t
       ·subst hdt
        rw[b0o]at ht
        cases ht
        have:=hvr d hd
        rwa [hd]at this
       ·rw[a0J hdt]at ht
        rw[a0j hdt]
        exact(hI.act t x ht hp).mono hsr.rsub hRW
    obtain⟨pre',ms',Pd',E',hI2,hh2⟩:=hI'.absorb hpairs
    exact ih _ _ _ pre' ms' Pd' E' H' R' hcnt hI2 hh2
   unfold wpOp
   rw[ho]
   unfold wpList at hs
   show if Region.wanted o (yielded ops A.tmps)=true then _ else _
   split
   ·rename_i hw
    rw[if_pos hw]at hs
    refine .inl ?_
    rcases hs with hs|⟨-,a',w',hl⟩
    ·have hs2:o.wp P A W (wpList P ops (QS ⟨W,a0z H,R,Γ.N⟩ o.dst (fun v H'=>AM P Γ.N ops Hs K r (a0w o.dst v E) H')) []) NoQ:=by
      unfold Oper.wp at hs⊢
      revert hs
      cases(execOp A.eval o).run P W with
      | ok n w'=>
       cases n with
       |enter f args=>
        intro hs
        refine Calls.mono hs ?_
        intro e w'' he
        cases e with
        |returned v=>exact he
        |outgrown=>obtain⟨a',w',hl⟩:=he;exact hl.elim
        |_=>exact he.elim
       |_=>exact fun h=>h
      |halt x w'=>cases x<;>exact fun h=>h
     refine Oper.wp_mono ?_ (b0v (Oper.wp_put hs2))
     rintro A' W' ⟨hq,hA'⟩
     have hq':QS ⟨W,a0z H,R,Γ.N⟩ o.dst (fun v H'=>AM P Γ.N ops Hs K r (a0w o.dst v E) H') .normal A' W':=hq
     rcases hA' with⟨u,rfl⟩|hnd
     ·exact hnext u W' hq'
     ·exact absurd hq'.1 hnd
    ·exact hl.elim
   ·rename_i hw
    rw[if_neg hw]at hs
    exact hnext _ _ hs
  ·exact absurd hlt' hnl
def AMS (P:Program)(N:Nat)(ops:Array Oper)(K:Env→List HE→Prop):List (List (Nat×Bool))→Env→List HE→Prop
 | [],E,H=>K E H
 |ord::r,E,H=> ∃Hm Hs,c0F E H Hm Hs∧AM P N ops Hs (fun E' H'=>AMS P N ops K r E' (H'++Hs)) ord E Hm
theorem AMS.go {ord:List (Nat×Bool)}{r:List (List (Nat×Bool))}{E:Env}{H Hm Hs:List HE}(hH:c0F E H Hm Hs)(h:AM P N ops Hs (fun E' H'=>AMS P N ops K r E' (H'++Hs)) ord E Hm):AMS P N ops K (ord::r) E H:=⟨Hm,Hs,hH,h⟩
theorem vp {ord:List (Nat×Bool)}{r:List (List (Nat×Bool))}{E:Env}{H Hm Hs:List HE}(h:AM P N ops Hs (fun E' H'=>AMS P N ops K r E' (H'++Hs)) ord E Hm)(hH:c0F E H Hm Hs:=by exact(b0b 0 rfl (b0b 0 rfl a0c))):AMS P N ops K (ord::r) E H:=AMS.go hH h
theorem AMS.nil {E:Env}{H:List HE}(h:K E H):AMS P N ops K [] E H:=h
def e0O (ops:Array Oper)(an:List (List Nat)):List (List (Nat×Bool))→Bool
 | []=>true
 |ord::r=>a0W ops an ord&&(ord.all fun q=>decide (q.1<ops.size))&&(r.all fun s=>s.all fun j=>ord.all fun q=>(an.getD j.1 []).contains q.1)&&e0O ops an r
def h0E (ops:Array Oper)(os:List (List (Nat×Bool))):Bool:=
 ((List.range ops.size).all fun i=>os.any fun ord=>ord.any fun q=>q.1==i)&&
 ((List.range ops.size).all fun i=>(ops[i]?).all fun o=>o.after.all fun e=> !Region.binds .any e||decide (e.on<i))&&e0O ops (c0G ops.toList []) os
theorem AMS.run {Q:Exit→Act→World→Prop}(hback: ∀i o,ops[i]? =some o→ ∀e∈o.after,Region.binds .any e=true→e.on<i): ∀(os:List (List (Nat×Bool))),e0O ops (c0G ops.toList []) os=true→
  ∀(listed:Array Bool) (A:Act) (W:World) (E:Env) (H:List HE) (R:Nat→Prop),listed.size=ops.size→c0q ops listed→(∀i,i<ops.size→(listed.getD i false=false↔i∈(os.flatten).map Prod.fst))→RelS Γ R H W→RelA Γ.N R W E A→
   AMS P Γ.N ops (fun E' H'=>AQ Γ Q .normal E' H') os E H→wpAny P .any ops Q (listed.toList.count false) listed A W
 | [],_,listed,A,W,E,H,R,hsz,hcl,hpt,hs,ha,h=>by
  have hlist: ∀i,i<ops.size→listed.getD i false=true:=by
   intro i hi
   cases hb:listed.getD i false with
   |true=>rfl
   |false=>have:=(hpt i hi).1 hb;cases this
  have h0:listed.toList.count false=0:=by
   rw[List.count_eq_zero]
   intro hm
   obtain⟨i,hi,hf⟩:=List.getElem_of_mem hm
   have hi':i<listed.size:=by simpa using hi
   have:=hlist i (by rw[←hsz];exact hi')
   rw[show listed.getD i false=listed[i] by simp[Array.getD,hi']]at this
   rw[show listed.toList[i]=listed[i] by simp,this]at hf
   cases hf
  rw[h0]
  refine⟨?_,h R A W hs ha⟩
  rw[List.eq_nil_iff_forall_not_mem]
  intro i hi
  obtain⟨h0,o,ho,_⟩:=mem_ready.1 hi
  have hi':i<ops.size:=(Array.getElem?_eq_some_iff.1 ho).1
  have:=hlist i hi'
  rw[←b0p (by rw[hsz];exact hi')]at this
  rw[this]at h0;cases h0
 | ord::os,hok,listed,A,W,E,H,R,hsz,hcl,hpt,hs,ha,h=>by
  rw[e0O]at hok
  simp only[Bool.and_eq_true,List.all_eq_true,cQ,List.contains_eq_mem]at hok
  obtain⟨⟨⟨hp,hlt⟩,hlate⟩,hrest⟩:=hok
  obtain⟨Hm,Hs,hH,hAM⟩:=h
  have hI:MJ P Γ ops Hs (fun E' H'=>AMS P Γ.N ops (fun E' H'=>AQ Γ Q .normal E' H') os E' (H'++Hs)) ord (os.flatten.map Prod.fst) listed A W [] ord [] E Hm R:=by
   refine⟨hsz,hcl,fun i hi=> ?_,rfl,fun i hi=>(by cases hi),hAM,fun i hi=>(by cases hi),hs.perm hH.symm,ha.defers,ha.size,fun t v ht _=>ha.slots t v ht⟩
   rw[hpt i hi]
   simp
  obtain⟨pre',ms',Pd',E',hI2,hh2⟩:=hI.absorb hp
  refine MJ.stage hback hp hlt (fun j hj q hq=> ?_) (fun listed A W E H R h1 h2 h3 h4 h5 h6=>AMS.run hback os hrest listed A W E _ R h1 h2 h3 h4 h5 h6) _ listed A W pre' ms' Pd' E' Hm R rfl hI2 hh2
  obtain⟨x,hx,rfl⟩:=List.mem_map.1 hj
  obtain⟨s,hs1,hs2⟩:=List.mem_flatten.1 hx
  exact hlate s hs1 x hs2 q hq
theorem AW.regionS {Q:Exit→Act→World→Prop}{E:Env}{H:List HE}{id:Nat}{l:List Oper}(os:List (List (Nat×Bool)))(hm:P.follows .mixedOrders=true)(hok:h0E l.toArray os=true)
  (h:AMS P Γ.N l.toArray (fun E' H'=>AQ Γ Q .normal E' H') os E H):AW Γ P Q (.region id l.toArray true) E H:=fun R a W hs0 ha0=>by
 obtain⟨ops,hops⟩: ∃ops,ops=l.toArray:=⟨_,rfl⟩
 rw[←hops]at h hok
 simp only[h0E,Bool.and_eq_true,List.all_eq_true,List.mem_range]at hok
 obtain⟨⟨hall,hbk⟩,hst⟩:=hok
 have hback: ∀i o,ops[i]? =some o→ ∀e∈o.after,Region.binds .any e=true→e.on<i:=fun i o ho e he hb=>by
  have hi:i<ops.size:=(Array.getElem?_eq_some_iff.1 ho).1
  have:=hbk i hi
  rw[ho]at this
  simp only[Option.all_some]at this
  have:=Array.all_eq_true_iff_forall_mem.1 this e he
  simpa[hb]using this
 have hs:RelS Γ R H W.drew:=⟨hs0.mods.drew,hs0.rlt,hs0.rsub,hs0.rnew,fun e he=>HE.ok_mono (W:=W) (W':=W.drew) (fun _ h=>h) (fun _ _=>rfl) (Nat.le_refl _) (fun _ _=>rfl) (hs0.ok e he),hs0.own,hs0.disj⟩
 have ha:RelA Γ.N R W.drew E a:=ha0.mono (fun _ h=>h) (fun _ _=>rfl)
 refine wp_region_any hm ?_
 rw[←hops]
 have hc:(Array.replicate ops.size false).toList.count false=ops.size:=by simp
 have:=AMS.run (Γ:=Γ) hback os hst (Array.replicate ops.size false) a W.drew E H R (by simp) (fun i o hl=>by
  exfalso
  by_cases h:i<ops.size<;>simp[Array.getD,h]at hl) (fun i hi=>by
   have:=hall i hi
   simp only[List.any_eq_true,beq_iff_eq]at this
   obtain⟨ord,ho,q,hq,hqi⟩:=this
   constructor
   ·intro _
    exact List.mem_map.2 ⟨q,List.mem_flatten.2 ⟨ord,ho,hq⟩,hqi⟩
   ·intro _
    simp[Array.getD,hi]) hs ha h
 rw[hc]at this
 exact this
end
section
variable {Γ:Cx}{P:Program}{ops:Array Oper}{Q:Exit→Act→World→Prop}{E:Env}{H:List HE}{o:Oper}{rest:List Oper}
end
section
variable {P:Program}{E:Env}{H:List HE}{N:Nat}{o:Oper}
theorem l0I (n:Nat):a0t n (.int .u8 0)=a0a (List.replicate n 0):=by
 rw[a0t,show(Value.int IntKind.u8 0).cells.toList.map AV.val= [AV.val (.int .u8 0)]from rfl,List.flatten_replicate_singleton]
 simp[a0a]
end
section
variable {Γ:Cx}{P:Program}{Q:Exit→Act→World→Prop}{E:Env}{H:List HE}{N:Nat}{o:Oper}{ops:Array Oper}{rest:List Oper}
theorem CoeL.app {a b x y:List AV}(h:CoeL a b)(k:CoeL x y):CoeL (a++x) (b++y):=fun R W us hu=>by
 induction a generalizing b us with
 | nil=>
  have hb:b= []:=by
   have:=(h R W [] RelL.nil).1
   exact List.eq_nil_of_length_eq_zero this.symm
  subst hb
  exact k R W us hu
 |cons u a ih=>
  have h1:us.take (a.length+1)++us.drop (a.length+1)=us:=List.take_append_drop ..
  have h2:=hu.take (a.length+1)
  have h3:=hu.drop (a.length+1)
  rw[show((u::a)++x).take (a.length+1)=u::a by simp]at h2
  rw[show((u::a)++x).drop (a.length+1)=x by simp]at h3
  rw[←h1]
  exact RelL.app (h R W _ h2) (k R W _ h3)
theorem Coe.ro {full:Bool}{n:Nat}{xs ys:List AV}(h:CoeL xs ys):Coe (.ro full n xs) (.ro full n ys):=fun R W u hu=>by
 cases hu with
 |emp _ a cap h1 h2=>
  have hy:ys= []:=List.eq_nil_of_length_eq_zero (h R W [] RelL.nil).1.symm
  subst hy
  exact .emp _ a cap h1 h2
 |ro _ _ _ b off cap us hb hc hr h1 h2 h3=>
  have hl:RelL R W xs ((List.range xs.length).map us):=⟨by simp,fun j hj=>by simpa[hj]using hr j hj⟩
  have hk:=h R W _ hl
  have he:ys.length=xs.length:=by have:=hk.1;simpa using this.symm
  refine .ro _ _ _ b off cap us hb (fun j hj=>hc j (by omega)) (fun j hj=> ?_) h1 h2 h3
  have:=hk.2 j hj
  rw[he]at hj
  simpa[hj]using this
theorem G.coeRow {X:Act→World→Prop}(i:Nat){v:Value}{T sz n:Nat}{xs:List AV}(m:Nat)(ys:List AV)(hi:H[i]? =some (.row v T sz n xs))(hm:n=m)(h:CoeL xs ys)(k:G Γ E (H.set i (.row v T sz m ys)) X):G Γ E H X:=fun R a W hs ha=>by
 subst hm
 obtain⟨us,h1,h2⟩:=hs.ok _ (List.mem_of_getElem? hi)
 exact k R a W (hs.setSame hi (fun b hb=>hb) ⟨us,h1,h R W us h2⟩) ha
theorem O.sliceN {T:Nat}{x:Operand}{low high:Option Operand}{l h:Int}{U sz bs:Nat}{zz:Value}[hs:TyS P T U sz bs zz](ho:o.op= .slice T x low high none)(hx:ev E x=some (.val (.slice none 0 0)))(hl:c0A E low 0=some l)(hh:c0A E high 0=some h)(h0:0≤l∧l≤h∧h≤0):
  OpW P N o E H (Is (.val (.slice none 0 0))):= .of_run fun R a W h1 h2 ha=>by
 obtain⟨i,hi,hi2, -⟩:=hs.el
 have hb:=b0I (P:=P) (W:=W) (cap:=0) ha hl hh h0
 have e1:l=0:=by omega
 have e2:h=0:=by omega
 subst e1
 subst e2
 refine⟨.slice none 0 0,?_,.val _⟩
 simp only[execOp,ho,(ha.ev hx).val_inv,Instr.sliceAt,Instr.slice,run_underlying hs.ty,Sem.run_bind,Result.andThen_ok,hb,sizeOf,typeInfo,hi,hi2,run_program,Sem.run_pure,Option.map_none]
 simp
def s0Q (k:Nat):Nat→List (Nat×AV)→Option (List AV)
 |_,[]=>some []
 |i,(j,v)::r=>bif Nat.beq j i&&Nat.beq v.cells.length k then(match s0Q k (i+1) r with|some ys=>some (v.cells++ys)|none=>none)else none
theorem g0q: ∀(cs pre zs:List AV),cs.length≤zs.length→a0e (pre++zs) pre.length cs=pre++cs++zs.drop cs.length
 | [],pre,zs,h=>by simp[a0e]
 |c::cs,pre,[],h=>by simp at h
 |c::cs,pre,z::zs,h=>by
  rw[a0e,show(pre++z::zs).set pre.length c=(pre++[c])++zs by simp,show pre.length+1=(pre++[c]).length by simp,g0q cs (pre++[c]) zs (by simpa using h)]
  simp
theorem k0t {k:Nat}: ∀(ps:List (Nat×AV)) (i:Nat) (pre zs ys:List AV),s0Q k i ps=some ys→pre.length=i*k→zs.length=ps.length*k→d0m (fun i=>some (i*k,k)) (pre++zs) ps=some (pre++ys)
 | [],i,pre,zs,ys,h,h1,h2=>by
  have:zs= []:=List.eq_nil_of_length_eq_zero (by simpa using h2)
  subst this
  cases h
  rfl
 | (j,v)::r,i,pre,zs,ys,h,h1,h2=>by
  rw[s0Q]at h
  cases hc:(Nat.beq j i&&Nat.beq v.cells.length k)with
  |false=>rw[hc]at h;cases h
  | true=>
   rw[hc]at h
   simp only[Bool.and_eq_true]at hc
   have hj:=Nat.eq_of_beq_eq_true hc.1
   have hk:=Nat.eq_of_beq_eq_true hc.2
   subst hj
   cases hr:s0Q k (j+1) r with
   |none=>rw[hr]at h;cases h
   | some ys'=>
    rw[hr]at h
    cases h
    have hz:v.cells.length≤zs.length:=by rw[h2,hk,cL,Nat.add_mul];omega
    unfold d0m
    simp only
    have hb:(Nat.beq v.cells.length k&&Nat.ble (j*k+v.cells.length) (pre++zs).length)=true:=by
     simp only[Bool.and_eq_true]
     exact⟨hc.2,Nat.ble_eq_true_of_le (by rw[cH,h1];omega)⟩
    rw[hb]
    show d0m _ (a0e (pre++zs) (j*k) v.cells) r=_
    rw[←h1,g0q _ _ _ hz]
    have:=k0t r (j+1) (pre++v.cells) (zs.drop v.cells.length) ys' hr (by rw[cH,h1,hk,Nat.add_mul];omega) (by rw[List.length_drop,h2,hk,cL,Nat.add_mul];omega)
    rw[this,List.append_assoc]
theorem O.buildSliceF {T U k bs n:Nat}{z:Value}{parts:List (Nat×Operand)}{ps:List (Nat×AV)}{ys:List AV}[hs:TyS P T U k bs z](ho:o.op= .buildSlice T n parts.toArray)(hx:evp E parts=some ps)(h1:f0i ps=true)
  (hsm:Nat.ble (n*k) 16777216=true) (hpos:Nat.ble 1 (n*k)=true) (hzk:Nat.beq z.cells.size k=true) (hn:Nat.beq ps.length n=true) (hy:s0Q k 0 ps=some ys):OpW P N o E H (b0f (fun b=> .val (.slice (some ⟨b,0,none⟩) n n)) U (n*k) ys):=
 O.buildSlice ho hx h1 hsm hpos hzk (by
  have:=k0t ps 0 [] (a0t n z) ys hy (by simp) (by
   have hzl:(z.cells.toList.map AV.val).length=k:=by rw[List.length_map,Array.length_toList];exact Nat.eq_of_beq_eq_true hzk
   rw[Nat.eq_of_beq_eq_true hn,a0t,List.length_flatten,List.map_replicate,hzl];simp)
  simpa using this)
theorem wk {T U k bs n:Nat}{z:Value}{parts:List (Nat×Operand)}{ps:List (Nat×AV)}{ys:List AV}(ho:o.op= .buildSlice T n parts.toArray:=by exact rfl)(hs:TyS P T U k bs z:=by infer_instance)(hx:evp E parts=some ps:=by exact rfl)(h1:f0i ps=true:=by exact rfl)(hsm:Nat.ble (n*k) 16777216=true:=by rfl)(hpos:Nat.ble 1 (n*k)=true:=by rfl)(hzk:Nat.beq z.cells.size k=true:=by rfl)(hn:Nat.beq ps.length n=true:=by rfl)(hy:s0Q k 0 ps=some ys:=by rfl):OpW P N o E H (b0f (fun b=> .val (.slice (some ⟨b,0,none⟩) n n)) U (n*k) ys):=O.buildSliceF ho hx h1 hsm hpos hzk hn hy
theorem OpW.frzR {U k n:Nat}{ys:List AV}(h:OpW P N o E H (b0e U k n ys)):OpW P N o E H (Is (.ro false n ys)):=fun R a W h1 h2 h3 h4=>by
 refine Oper.wp_mono ?_ (h R a W h1 h2 h3 h4)
 rintro A' W' ⟨u,v,Hn,R',rfl,⟨v0,rfl,hv0,rfl⟩,p⟩
 obtain⟨hok,hfo⟩:=p.ok _ (List.mem_cons_self ..)
 have hu:=p.val.val_inv
 subst hu
 have hok':=hok
 obtain⟨us,hown,hr⟩:=hok
 refine⟨_,.ro false n ys,[],fun c=>R' c∨(HE.row u U k n ys).foot c,rfl,⟨rfl,rfl⟩,p.ext,fun c hc=> .inl (p.sub c hc),fun c hc=> ?_,?_,fun _ he=>(by cases he),.nil⟩
 ·rcases hc with hc|hc
  ·exact p.new c hc
  ·exact .inr ⟨(hfo _ hc).1,HE.ok_lt hok' hc⟩
 ·have hr':=hr.mono (R':=fun c=>R' c∨(HE.row u U k n ys).foot c) (fun _ h=> .inl h) (W':=W') (fun _ _=>rfl)
  rcases hown.2 with⟨rfl,rfl⟩|⟨g,cap,cur,rfl,hbg,hg,h1,h2,h3,h4⟩
  ·have:ys= []:=List.eq_nil_of_length_eq_zero (by rw[←hr.1,hown.1];simp)
   subst this
   exact .emp _ _ _ (fun h=>by cases h) (Nat.zero_le _)
  ·refine .ro false n ys g 0 cap (fun j=>us.getD j undef) (.inr rfl) (fun j hj=> ?_) (fun j hj=>hr'.2 j hj) h1 h2 (fun h=>by cases h)
   have hj':j<us.length:=by rw[hr.1];exact hj
   have:=hown.cells (g:=g) rfl j us[j] (by simp[hj'])
   rw[a0H]at this
   rw[this]
   simp[List.getD,hj']
theorem wi {U k n:Nat}{ys:List AV}(h:OpW P N o E H (b0e U k n ys):=by exact(O.appendNil rfl (by rfl) (by rfl) rfl rfl (by exact SrcA.ro TyD.ax (by(simp;done)) (lB rfl)) (by(simp[AV.cells,AV.one, *];done)) (by(unfold maxLen;omega)) (by omega))):OpW P N o E H (Is (.ro false n ys)):=OpW.frzR h
def m0y (tmps:Array Value):ResultVar→Sem Value
 | .tmp t=>pure (tmps.getD t undef)
 | .cell a t=>do loadVar t (←asAddr (tmps.getD a undef))
theorem g0x (fn:Func)(tmps:Array Value):results fn tmps=(do
  let vs←fn.results.mapM (m0y tmps)
  pure (if h:vs.size=1 then vs[0]else .tuple vs)):=by
 unfold results
 congr 1
def ResAt (Γ:Cx)(P:Program)(E:Env)(H:List HE)(x:ResultVar)(q:AV):Prop:=
 ∀R a W,RelS Γ R H W→RelA Γ.N R W E a→ ∃u,(m0y a.tmps x).run P W= .ok u W∧RelV R W q u
theorem ResAt.tmp {t:Nat}{q:AV}(h:a0q E t=some q):ResAt Γ P E H (.tmp t) q:=fun R a W hs ha=>⟨a.eval (.tmp t),rfl,ha.slots t q h⟩
theorem ResAt.cell {t T k b T' room:Nat}{xs ys:List AV}[hg:TyG P T true k](ht:a0q E t=some (.val (.pointer (some ⟨b,0,none⟩))))(hm:HE.blk b T' room xs∈H)(hv:xs.take k=ys)(hk:ys.length=k):ResAt Γ P E H (.cell t T) (.agg ys):=fun R a W hs ha=>by
 obtain⟨us,cs,hb,hsz,hts,hrl⟩:=hs.ok _ hm
 have hrl:=hrl.take k
 rw[hv]at hrl
 have hl:=b0E hg W b 0 (us.take k) (by rw[hrl.1,hk]) (fun i u hi=>by
  rw[cell_of_row W b (0+i) cs T' (0,0) hb]
  rw[List.getElem?_take]at hi
  split at hi
  ·rw[←hts,List.getElem?_take]at hi
   split at hi
   ·simpa using hi
   ·cases hi
  ·cases hi)
 have hv':=(ha.slots t _ ht).val_inv
 refine⟨.agg (us.take k).toArray,?_,hrl.toAgg⟩
 have:a.tmps.getD t undef= .pointer (some ⟨b,0,none⟩):=hv'
 simp[m0y,this,asAddr,hl]
theorem AQ.ret3G {fn:Func}{Post:AV→List HE→Prop}{x y z:ResultVar}{p q r:AV}{H':List HE}(hr:fn.results= #[x,y,z])(h1:ResAt Γ P E H x p)(h2:ResAt Γ P E H y q)(h3:ResAt Γ P E H z r)
  (hH: ∃H1,H1.Sublist H∧H'.Perm H1) (hp:Post (.tup [p,q,r]) H'):AQ Γ (FnQ Γ P fn Post) .ret E H:=fun R a W hs ha=>by
 obtain⟨H1,k1,k2⟩:=hH
 obtain⟨u1,e1,g1⟩:=h1 R a W hs ha
 obtain⟨u2,e2,g2⟩:=h2 R a W hs ha
 obtain⟨u3,e3,g3⟩:=h3 R a W hs ha
 refine⟨ha.defers,.tuple #[u1,u2,u3],?_,_,_,H',R,rfl,hp,?_,RelL.toTup (us:= [u1,u2,u3]) (RelL.cons g1 (RelL.cons g2 (RelL.cons g3 RelL.nil)))⟩
 ·rw[g0x,hr]
  simp[e1,e2,e3]
 ·have:=(hs.sub k1).perm k2
  exact⟨this.mods,this.rlt,this.rsub,this.rnew,this.ok,this.own,this.disj⟩
theorem zQ {fn:Func}{Post:AV→List HE→Prop}{x y z:ResultVar}{p q r:AV}{H':List HE}(hr:fn.results= #[x,y,z]:=by exact rfl)(h1:ResAt Γ P E H x p:=by exact ResAt.cell rfl (by repeat(exact List.Mem.head _)) (by(dsimp only[List.set,cA,cN,List.take,List.drop];done)) (by rfl))(h2:ResAt Γ P E H y q:=by exact ResAt.cell rfl mM (by(dsimp only[List.set,cA,cN,List.take,List.drop];done)) (by rfl))(h3:ResAt Γ P E H z r:=by exact ResAt.tmp rfl)(hH: ∃H1,H1.Sublist H∧H'.Perm H1:=by exact nS)(hp:Post (.tup [p,q,r]) H':=by exact⟨rfl,rfl⟩):AQ Γ (FnQ Γ P fn Post) .ret E H:=AQ.ret3G hr h1 h2 h3 hH hp
theorem yX {fn:Func}{Post:AV→List HE→Prop}{x y z:ResultVar}{p q r:AV}{H':List HE}(hr:fn.results= #[x,y,z]:=by exact rfl)(h1:ResAt Γ P E H x p:=by exact ResAt.cell rfl mM (by(dsimp only[List.set,cA,cN,List.take,List.drop];done)) (by rfl))(h2:ResAt Γ P E H y q:=by exact ResAt.tmp rfl)(h3:ResAt Γ P E H z r:=by exact ResAt.tmp rfl)(hH: ∃H1,H1.Sublist H∧H'.Perm H1:=by exact nS)(hp:Post (.tup [p,q,r]) H':=by exact⟨rfl,rfl⟩):AQ Γ (FnQ Γ P fn Post) .ret E H:=AQ.ret3G hr h1 h2 h3 hH hp
theorem y7 {fn:Func}{Post:AV→List HE→Prop}{x y z:ResultVar}{p q r:AV}{H':List HE}(hr:fn.results= #[x,y,z]:=by exact rfl)(h1:ResAt Γ P E H x p:=by exact ResAt.cell rfl (by repeat(exact List.Mem.head _)) (by(dsimp only[List.set,cA,cN,List.take,List.drop];done)) (by rfl))(h2:ResAt Γ P E H y q:=by exact ResAt.tmp rfl)(h3:ResAt Γ P E H z r:=by exact ResAt.tmp rfl)(hH: ∃H1,H1.Sublist H∧H'.Perm H1:=by exact nS)(hp:Post (.tup [p,q,r]) H':=by exact⟨rfl,rfl⟩):AQ Γ (FnQ Γ P fn Post) .ret E H:=AQ.ret3G hr h1 h2 h3 hH hp
theorem xj {fn:Func}{Post:AV→List HE→Prop}{x y z:ResultVar}{p q r:AV}{H':List HE}(hr:fn.results= #[x,y,z]:=by exact rfl)(h1:ResAt Γ P E H x p:=by exact ResAt.cell rfl mM (by(dsimp only[List.set,cA,cN,List.take,List.drop];done)) (by rfl))(h2:ResAt Γ P E H y q:=by exact ResAt.cell rfl mM (by(dsimp only[List.set,cA,cN,List.take,List.drop];done)) (by rfl))(h3:ResAt Γ P E H z r:=by exact ResAt.tmp rfl)(hH: ∃H1,H1.Sublist H∧H'.Perm H1:=by exact nS)(hp:Post (.tup [p,q,r]) H':=by exact⟨rfl,rfl⟩):AQ Γ (FnQ Γ P fn Post) .ret E H:=AQ.ret3G hr h1 h2 h3 hH hp
theorem xt {fn:Func}{Post:AV→List HE→Prop}{x y z:ResultVar}{p q r:AV}{H':List HE}(hr:fn.results= #[x,y,z]:=by exact rfl)(h1:ResAt Γ P E H x p:=by exact ResAt.cell rfl mM (by(dsimp only[List.set,cA,cN,List.take,List.drop];done)) (by rfl))(h2:ResAt Γ P E H y q:=by exact ResAt.cell rfl (by repeat(exact List.Mem.head _)) (by(dsimp only[List.set,cA,cN,List.take,List.drop];done)) (by rfl))(h3:ResAt Γ P E H z r:=by exact ResAt.tmp rfl)(hH: ∃H1,H1.Sublist H∧H'.Perm H1:=by exact nS)(hp:Post (.tup [p,q,r]) H':=by exact⟨rfl,rfl⟩):AQ Γ (FnQ Γ P fn Post) .ret E H:=AQ.ret3G hr h1 h2 h3 hH hp
end
section
variable {P:Program}{ops:Array Oper}{N:Nat}
structure Al where
 (i d T room:Nat) (xs:List AV)
def Al.ok (P:Program)(N:Nat)(ops:Array Oper)(al:Al):Prop:=
 ∃o,ops[al.i]? =some o∧o.dst=some al.d∧al.d<N∧o.guard=none∧OpW P N o [] [] (b0f (fun b=> .val (.pointer (some ⟨b,0,none⟩))) al.T al.room al.xs)
def Al.he (al:Al)(b:Nat):HE:= .blk b al.T al.room al.xs
def Al.hs (al:Al):Option Nat→List HE
 |none=> []
 |some b=> [al.he b]
def AN (P:Program)(N:Nat)(ops:Array Oper)(al:Al)(Hs:List HE)(K:Env→List HE→Prop):List (Nat×Bool)→Env→List HE→Prop
 | [],E,H=>K E H
 |(i,true)::r,E,H=>if i=al.i then(∀b,AN P N ops al Hs K r ((al.d,.val (.pointer (some ⟨b,0,none⟩)))::E) (al.he b::H))else∃o,ops[i]? =some o∧ ∀w0 R0,AO ⟨w0,a0z H,R0,N⟩ P ops (QS ⟨w0,a0z H,R0,N⟩ o.dst (fun v H'=>AN P N ops al Hs K r (a0w o.dst v E) H')) [o] (rst E (o.looksAt ops)) H
 |(i,false)::r,E,H=> ∃o d v,ops[i]? =some o∧o.dst=some d∧d<N∧OpF P N ops o (rst E (o.looksAt ops)) Hs (Is v)∧AN P N ops al Hs K r ((d,v)::E) H
def d0c (ops:Array Oper)(ia:Nat)(an:List (List Nat))(i:Nat)(b:Bool)(j:Nat)(c:Bool):Bool:=
 match ops[i]?,ops[j]?with
 | some oi,some oj=>
  let waits:=oj.after.any fun e=>Region.binds .any e&&e.on==i
  let anc:=(an.getD j []).contains i
  (i !=j)&&(!b||anc||j==ia)&&
  (match oj.dst with
   |some d=>bif c&&j !=ia then(!((oi.looksAt ops).contains d||oi.dst==some d))||anc else !(oi.looksAt ops).contains d&&oi.dst !=some d
   |none=>c&&j !=ia)&&
  (match oi.dst with
   |some d=> !(oj.looksAt ops).contains d||waits
   |none=>true)
 |_,_=>false
def b0w (ops:Array Oper)(ia:Nat)(an:List (List Nat)):List (Nat×Bool)→Bool
 | []=>true
 |(i,b)::r=>(b||(match ops[i]?with|some o=>(match o.dst with|some d=> !(o.looksAt ops).contains d|none=>false)|none=>false))&&r.all (fun q=>d0c ops ia an i b q.1 q.2)&&b0w ops ia an r
def q0v (ops:Array Oper)(ia:Nat)(ord:List (Nat×Bool)):Bool:=
 ((List.range ops.size).all fun i=>(ord.map Prod.fst).contains i)&&(ord.all fun q=>decide (q.1<ops.size))&&
 ((List.range ops.size).all fun i=>(ops[i]?).all fun o=>o.after.all fun e=> !Region.binds .any e||decide (e.on<i))&&(ord.all fun q=>q.1 !=ia||q.2)&&b0w ops ia (c0G ops.toList []) ord
theorem a0n {ia:Nat}{an:List (List Nat)}: ∀{pre r:List (Nat×Bool)},b0w ops ia an (pre++r)=true→b0w ops ia an r=true∧ ∀q∈pre,∀s∈r,d0c ops ia an q.1 q.2 s.1 s.2=true
 | [],r,h=>⟨h,fun q hq=>by cases hq⟩
 |(i,b)::pre,r,h=>by
  rw[cA,b0w]at h
  simp only[Bool.and_eq_true,List.all_eq_true]at h
  obtain⟨h1,h2⟩:=a0n h.2
  refine⟨h1,fun q hq s hs=> ?_⟩
  rcases List.mem_cons.1 hq with rfl|hq
  ·exact h.1.2 s (List.mem_append_right _ hs)
  ·exact h2 q hq s hs
structure PairOkA (ops:Array Oper) (ia:Nat) (an:List (List Nat)) (i:Nat) (b:Bool) (oi:Oper) (j:Nat) (c:Bool) (oj:Oper):Prop where
 ne:i≠j
 main:b=true→j≠ia→i∈an.getD j []
 flt:c=false∨j=ia→ ∃d,oj.dst=some d∧d∉oi.looksAt ops∧oi.dst≠some d
 mn:c=true→j≠ia→ ∀d,oj.dst=some d→(d∈oi.looksAt ops∨oi.dst=some d)→i∈an.getD j []
 reads: ∀d,oi.dst=some d→d∈oj.looksAt ops→ ∃e∈oj.after,Region.binds .any e=true∧e.on=i
theorem b0l {ia:Nat}{an:List (List Nat)}{i j:Nat}{b c:Bool}{oi oj:Oper}(h:d0c ops ia an i b j c=true)(hi:ops[i]? =some oi)(hj:ops[j]? =some oj):PairOkA ops ia an i b oi j c oj:=by
 unfold d0c at h
 rw[hi,hj]at h
 simp only[Bool.and_eq_true,bne_iff_ne,ne_eq]at h
 obtain⟨⟨⟨h1,h2⟩,h3⟩,h4⟩:=h
 refine⟨h1,fun hb hj=> ?_,fun hc=> ?_,fun hc hj d hd hm=> ?_,fun d hd hm=> ?_⟩
 ·subst hb;simpa[hj]using h2
 ·have hcj:(c&&j !=ia)=false:=by rcases hc with hc|hc<;>simp[hc]
  cases hd:oj.dst with
  |none=>rw[hd]at h3;simp only[hcj]at h3;cases h3
  |some d=>
   rw[hd]at h3
   simp only[hcj,cond_false]at h3
   simp at h3
   exact⟨d,rfl,h3.1,h3.2⟩
 ·subst hc
  have hcj:(true&&j !=ia)=true:=by simp[hj]
  rw[hd]at h3
  simp only[hcj,cond_true]at h3
  simp at h3
  rcases h3 with h3|h3
  ·rcases hm with hm|hm
   ·exact absurd hm h3.1
   ·exact absurd hm h3.2
  ·exact h3
 ·rw[hd]at h4
  simp only[Bool.or_eq_true,Bool.not_eq_true',List.contains_eq_mem,decide_eq_false_iff_not]at h4
  rcases h4 with h4|h4
  ·exact absurd hm h4
  ·obtain⟨x,hx,hx2⟩:=f0U h4
   simp only[Bool.and_eq_true,beq_iff_eq]at hx2
   exact⟨x,hx,hx2.1,hx2.2⟩
structure NI (P:Program) (Γ:Cx) (ops:Array Oper) (al:Al) (Hs:List HE) (K:Env→List HE→Prop) (ord:List (Nat×Bool)) (listed:Array Bool) (A:Act) (W:World) (pre ms:List (Nat×Bool)) (Pd:List Nat) (ea:Option Nat) (E:Env) (H:List HE) (R:Nat→Prop):Prop where
 size:listed.size=ops.size
 closed:c0q ops listed
 part: ∀i,i<ops.size→(listed.getD i false=false↔(i∈Pd∨i∈ms.map Prod.fst)∧(ea≠none→i≠al.i))
 ord:ord=pre++ms
 pdp: ∀i∈Pd,(i,false)∈pre
 am:AN P Γ.N ops al Hs K ms E H
 pend: ∀i∈Pd,∃o d v,ops[i]? =some o∧o.dst=some d∧d<Γ.N∧a0q E d=some v∧OpF P Γ.N ops o (rst E (o.looksAt ops)) Hs (Is v)
 rels:RelS Γ R (H++(al.hs ea++Hs)) W
 eal: ∀b,ea=some b→(al.i,true)∈ms∧A.eval (.tmp al.d)= .pointer (some ⟨b,0,none⟩)
 defers:A.defers= []
 tmps:A.tmps.size=Γ.N
 act: ∀t v,a0q E t=some v→(∀i∈Pd,∀o,ops[i]? =some o→o.dst≠some t)→(ea≠none→t≠al.d)→RelV R W v (A.eval (.tmp t))
variable {Γ:Cx}{al:Al}{Hs:List HE}{K:Env→List HE→Prop}{ord:List (Nat×Bool)}
theorem NI.absorb {listed:Array Bool}{A:Act}{W:World}{R:Nat→Prop}(hok:b0w ops al.i (c0G ops.toList []) ord=true)(hal:al.ok P Γ.N ops): ∀(ms pre:List (Nat×Bool)) (Pd:List Nat) (ea:Option Nat) (E:Env) (H:List HE),NI P Γ ops al Hs K ord listed A W pre ms Pd ea E H R→
  ∃pre' ms' Pd' ea' E' H',NI P Γ ops al Hs K ord listed A W pre' ms' Pd' ea' E' H' R∧(ms'= []∨ ∃m r,ms'=(m,true)::r∧(m=al.i→ea'=none))
 | [],pre,Pd,ea,E,H,h=>⟨pre,[],Pd,ea,E,H,h,.inl rfl⟩
 | (m,true)::r,pre,Pd,ea,E,H,h=>by
  by_cases hm:m=al.i
  ·subst hm
   cases hea:ea with
   |none=>subst hea;exact⟨pre,_,Pd,none,E,H,h,.inr ⟨_,r,rfl,fun _=>rfl⟩⟩
   | some b=>
    subst hea
    obtain⟨oa,ho,hd,hN,hg,hop⟩:=hal
    have ham:=h.am
    rw[AN,if_pos rfl]at ham
    have hord:=h.ord
    have hq:=a0n (pre:=pre) (r:=(al.i,true)::r) (by rw[←hord];exact hok)
    have hself: ∀i∈Pd,i≠al.i:=fun i hi e=>by
     have:=b0l (hq.2 _ (h.pdp i hi) (al.i,true) (List.mem_cons_self ..)) (by rw[e];exact ho) ho
     exact this.ne e
    have hp: ∀i∈Pd,∀oi,ops[i]? =some oi→al.d∉oi.looksAt ops∧oi.dst≠some al.d:=fun i hi oi hoi=>by
     have:=b0l (hq.2 _ (h.pdp i hi) (al.i,true) (List.mem_cons_self ..)) hoi ho
     obtain⟨d',h1,h2,h3⟩:=this.flt (.inr rfl)
     rw[hd]at h1
     cases h1
     exact⟨h2,h3⟩
    have hnr:al.i∉r.map Prod.fst:=fun hm=>by
     obtain⟨⟨j,c⟩,hq3,hji⟩:=List.mem_map.1 hm
     have h9:=(a0n (pre:=pre++[(al.i,true)]) (r:=r) (by rw[List.append_assoc,List.singleton_append,←hord];exact hok)).2 (al.i,true) (by simp) _ hq3
     simp only at hji
     subst hji
     exact(b0l h9 ho ho).ne rfl
    refine NI.absorb hok ⟨oa,ho,hd,hN,hg,hop⟩ r (pre++[(al.i,true)]) Pd none ((al.d,.val (.pointer (some ⟨b,0,none⟩)))::E) (al.he b::H) ⟨h.size,h.closed,fun i hi=> ?_,by rw[hord];simp,fun i hi=>List.mem_append_left _ (h.pdp i hi),ham b,fun i hi=> ?_,?_,fun _ h=>(by cases h),h.defers,h.tmps,fun t x ht hpd _=> ?_⟩
    ·rw[h.part i hi]
     simp only[List.map_cons,List.mem_cons,ne_eq,not_false_eq_true,forall_const,not_true_eq_false,false_implies,and_true,reduceCtorEq]
     constructor
     ·rintro⟨h1|h1|h1,h2⟩
      ·exact .inl h1
      ·exact absurd h1 h2
      ·exact .inr h1
     ·rintro(h1|h1)
      ·exact⟨.inl h1,hself i h1⟩
      ·exact⟨.inr (.inr h1),fun e=>hnr (e▸h1)⟩
    ·obtain⟨oi,di,vi,h1,h2,h3,h4,h5⟩:=h.pend i hi
     obtain⟨h6,h7⟩:=hp i hi oi h1
     refine⟨oi,di,vi,h1,h2,h3,?_,by rw[b0c h6];exact h5⟩
     rw[a0J (fun e=>h7 (by rw[h2,e]))];exact h4
    ·refine h.rels.perm ?_
     show(al.he b::(H++([]++Hs))).Perm (H++([al.he b]++Hs))
     exact(List.perm_middle (a:=al.he b) (l₁:=H) (l₂:=Hs)).symm
    ·by_cases hdt:al.d=t
     ·subst hdt
      rw[b0o]at ht
      cases ht
      rw[(h.eal b rfl).2];exact .val _
     ·rw[a0J hdt]at ht
      exact h.act t x ht hpd fun _ e=>hdt e.symm
  ·exact⟨pre,_,Pd,ea,E,H,h,.inr ⟨m,r,rfl,fun e=>absurd e hm⟩⟩
 | (j,false)::r,pre,Pd,ea,E,H,h=>by
  obtain⟨o,d,v,ho,hd,hN,hop,ham⟩:=h.am
  have hord:=h.ord
  have hq:=a0n (pre:=pre) (r:=(j,false)::r) (by rw[←hord];exact hok)
  have hself:d∉o.looksAt ops:=by
   have:=hq.1
   rw[b0w]at this
   simp only[Bool.and_eq_true,ho,hd,Bool.false_or]at this
   simpa using this.1.1
  have hp: ∀i∈Pd,∀oi,ops[i]? =some oi→d∉oi.looksAt ops∧oi.dst≠some d:=fun i hi oi hoi=>by
   have:=b0l (hq.2 _ (h.pdp i hi) (j,false) (List.mem_cons_self ..)) hoi ho
   obtain⟨d',h1,h2,h3⟩:=this.flt (.inl rfl)
   rw[hd]at h1
   cases h1
   exact⟨h2,h3⟩
  refine NI.absorb hok hal r (pre++[(j,false)]) (j::Pd) ea ((d,v)::E) H ⟨h.size,h.closed,fun i hi=> ?_,by rw[hord];simp,fun i hi=> ?_,ham,fun i hi=> ?_,h.rels,fun b hb=> ?_,h.defers,h.tmps,fun t x ht hpd hea=> ?_⟩
  ·rw[h.part i hi]
   simp only[List.map_cons,List.mem_cons]
   refine and_congr_left fun _=> ?_
   constructor
   ·rintro(h|h|h)
    ·exact .inl (.inr h)
    ·exact .inl (.inl h)
    ·exact .inr h
   ·rintro((h|h)|h)
    ·exact .inr (.inl h)
    ·exact .inl h
    ·exact .inr (.inr h)
  ·rcases List.mem_cons.1 hi with rfl|hi
   ·simp
   ·exact List.mem_append_left _ (h.pdp i hi)
  ·rcases List.mem_cons.1 hi with rfl|hi
   ·exact⟨o,d,v,ho,hd,hN,b0o,by rw[b0c hself];exact hop⟩
   ·obtain⟨oi,di,vi,h1,h2,h3,h4,h5⟩:=h.pend i hi
    obtain⟨h6,h7⟩:=hp i hi oi h1
    refine⟨oi,di,vi,h1,h2,h3,?_,by rw[b0c h6];exact h5⟩
    rw[a0J (fun e=>h7 (by rw[h2,e]))];exact h4
  ·obtain⟨h1,h2⟩:=h.eal b hb
   rcases List.mem_cons.1 h1 with h1|h1
   ·cases h1
   ·exact⟨h1,h2⟩
  ·have hne:d≠t:=fun e=>hpd j (List.mem_cons_self ..) o ho (by rw[hd,e])
   rw[a0J hne]at ht
   exact h.act t x ht (fun i hi=>hpd i (List.mem_cons_of_mem _ hi)) hea
theorem NI.reads {listed:Array Bool}{A:Act}{W:World}{R:Nat→Prop}{pre ms:List (Nat×Bool)}{Pd:List Nat}{ea:Option Nat}{E:Env}{H:List HE}(hok:b0w ops al.i (c0G ops.toList []) ord=true)(hal:al.ok P Γ.N ops)(h:NI P Γ ops al Hs K ord listed A W pre ms Pd ea E H R)
  {i:Nat} {b:Bool} {o:Oper} (ho:ops[i]? =some o) (hdeps: ∀e∈o.after,Region.binds .any e=true→listed.getD e.on false=true) (hi:(i,b)∈pre∧i∈Pd∧b=false∨ ∃r,ms=(i,b)::r∧i≠al.i):RelA Γ.N R W (rst E (o.looksAt ops)) A:=by
 refine⟨h.defers,h.tmps,fun t v ht=> ?_⟩
 obtain⟨htl,ht⟩:=c0y ht
 obtain⟨oa,hoa,hda, -⟩:=hal
 have hnal:ea≠none→t≠al.d:=fun hea e=>by
  obtain⟨b',hb'⟩:=Option.ne_none_iff_exists'.1 hea
  have hmem:=(h.eal b' hb').1
  have key:d0c ops al.i (c0G ops.toList []) i b al.i true=true→False:=fun hp=>by
   obtain⟨d',h1,h2, -⟩:=(b0l hp ho hoa).flt (.inr rfl)
   rw[hda]at h1;cases h1
   exact h2 (e▸htl)
  rcases hi with⟨hip, -, -⟩|⟨r,hms,hne⟩
  ·exact key ((a0n (pre:=pre) (r:=ms) (by rw[←h.ord];exact hok)).2 _ hip _ hmem)
  ·rw[hms]at hmem
   rcases List.mem_cons.1 hmem with h9|h9
   ·cases h9;exact hne rfl
   ·exact key ((a0n (pre:=pre++[(i,b)]) (r:=r) (by have:=h.ord;rw[List.append_assoc,List.singleton_append,←hms,←this];exact hok)).2 (i,b) (by simp) _ h9)
 refine h.act t v ht (fun k hk ok hok' hdk=> ?_) hnal
 have hkp:=h.pdp k hk
 have hkn:ea≠none→k≠al.i:=fun hea e=>by
  obtain⟨b',hb'⟩:=Option.ne_none_iff_exists'.1 hea
  have hmem:=(h.eal b' hb').1
  exact(b0l ((a0n (pre:=pre) (r:=ms) (by rw[←h.ord];exact hok)).2 _ hkp _ hmem) hok' hoa).ne e
 have hkf:listed.getD k false=false:=(h.part k (Array.getElem?_eq_some_iff.1 hok').1).2 ⟨.inl hk,hkn⟩
 have direct:d0c ops al.i (c0G ops.toList []) k false i b=true→False:=fun hp=>by
  obtain⟨e,he,hb,hon⟩:=(b0l hp hok' ho).reads t hdk htl
  have:=hdeps e he hb
  rw[hon,hkf]at this;cases this
 rcases hi with⟨hip,hiP,rfl⟩|⟨r,hms, -⟩
 ·
  obtain⟨p1,p2,hp12⟩:=List.append_of_mem hkp
  have hord:=h.ord
  rw[hp12,List.append_assoc]at hord
  rw[hp12]at hip
  rcases List.mem_append.1 hip with hip|hip
  ·
   have hq:=a0n (pre:=p1) (by rw[←hord];exact hok)
   have:=b0l (hq.2 _ hip (k,false) (List.mem_cons_self ..)) ho hok'
   obtain⟨d',h1,h2, -⟩:=this.flt (.inl rfl)
   rw[hdk]at h1;cases h1
   exact h2 htl
  ·rcases List.mem_cons.1 hip with he|hip
   ·cases he
    have hq:=(a0n (pre:=p1) (by rw[←hord];exact hok)).1
    rw[cA,b0w]at hq
    simp only[Bool.and_eq_true]at hq
    obtain rfl:o=ok:=by rw[ho]at hok';exact Option.some.inj hok'
    have:=hq.1.1
    rw[ho]at this
    simp only[hdk,Bool.false_or]at this
    simp at this
    exact this htl
   ·rw[show p1++((k,false)::p2++ms)=(p1++[(k,false)])++(p2++ms) by simp]at hord
    have hq:=a0n (pre:=p1++[(k,false)]) (by rw[←hord];exact hok)
    exact direct (hq.2 (k,false) (by simp) (i,false) (List.mem_append_left _ hip))
 ·have hq:=a0n (pre:=pre) (r:=ms) (by rw[←h.ord];exact hok)
  exact direct (hq.2 _ hkp (i,b) (by rw[hms];exact List.mem_cons_self ..))
theorem AW.regionA {Q:Exit→Act→World→Prop}{E:Env}{H:List HE}{id:Nat}{l:List Oper}(al:Al)(hal0:al.ok P Γ.N l.toArray)(ord:List (Nat×Bool)){Hm Hs:List HE}(hm:P.follows .mixedOrders=true)(hok:q0v l.toArray al.i ord=true)(hH:c0F E H Hm Hs)
  (h:AN P Γ.N l.toArray al Hs (fun E' H'=>AQ Γ Q .normal E' (H'++Hs)) ord E Hm):AW Γ P Q (.region id l.toArray true) E H:=fun R a W hs0 ha0=>by
 obtain⟨ops,hops⟩: ∃ops,ops=l.toArray:=⟨_,rfl⟩
 rw[←hops]at h hok hal0
 have hal:=hal0
 obtain⟨oa,hoa,hda,hNa,hga,hopa⟩:=hal0
 simp only[q0v,Bool.and_eq_true,List.all_eq_true,List.mem_range]at hok
 obtain⟨⟨⟨⟨hall,hlt⟩,hbk⟩,hkind⟩,hpairs⟩:=hok
 have hkd: ∀i b,(i,b)∈ord→i=al.i→b=true:=fun i b hib e=>by have:=hkind _ hib;simpa[e]using this
 have hback: ∀i o,ops[i]? =some o→ ∀e∈o.after,Region.binds .any e=true→e.on<i:=fun i o ho e he hb=>by
  have hi:i<ops.size:=(Array.getElem?_eq_some_iff.1 ho).1
  have:=hbk i hi
  rw[ho]at this
  simp only[Option.all_some]at this
  have:=Array.all_eq_true_iff_forall_mem.1 this e he
  simpa[hb]using this
 have main: ∀(fuel:Nat) (listed:Array Bool) (A:Act) (W:World) (pre ms:List (Nat×Bool)) (Pd:List Nat) (ea:Option Nat) (E:Env) (H:List HE) (R:Nat→Prop),fuel=listed.toList.count false→
   NI P Γ ops al Hs (fun E' H'=>AQ Γ Q .normal E' (H'++Hs)) ord listed A W pre ms Pd ea E H R→(ms= []∨ ∃m r,ms=(m,true)::r∧(m=al.i→ea=none))→wpAny P .any ops Q fuel listed A W:=by
  intro fuel
  induction fuel with
  | zero=>
   intro listed A W pre ms Pd ea E H R hc hI hhd
   have hlist: ∀i,i<ops.size→listed.getD i false=true:=by
    intro i hi
    have hi':i<listed.size:=by rw[hI.size];exact hi
    cases hb:listed.getD i false with
    |true=>rfl
    | false=>
     exfalso
     have hm:false∈listed.toList:=by
      rw[←hb];simp[Array.getD,hi']
     have:=List.count_pos_iff.2 hm
     omega
   have hin: ∀i b,(i,b)∈ord→i<ops.size:=fun i b hib=>by have:=hlt _ hib;simpa using this
   have hms:ms= []:=by
    rcases hhd with h|⟨m,r,h,hm0⟩
    ·exact h
    ·have h1:=hin m true (by rw[hI.ord,h];simp)
     have:=(hI.part m h1).2 ⟨.inr (by rw[h];simp),fun hne e=>hne (hm0 e)⟩
     rw[hlist m h1]at this;cases this
   have hea:ea=none:=by
    cases hea:ea with
    |none=>rfl
    |some b=>have:=(hI.eal b hea).1;rw[hms]at this;cases this
   subst hea
   have hPd:Pd= []:=by
    rw[List.eq_nil_iff_forall_not_mem]
    intro i hi
    have h1:=hin i false (by rw[hI.ord];exact List.mem_append_left _ (hI.pdp i hi))
    have:=(hI.part i h1).2 ⟨.inl hi,fun hne=>absurd rfl hne⟩
    rw[hlist i h1]at this;cases this
   subst hms
   subst hPd
   refine⟨?_,hI.am R A W (by simpa[Al.hs]using hI.rels) ⟨hI.defers,hI.tmps,fun t v ht=>hI.act t v ht (fun i hi=>(by cases hi)) fun hne=>absurd rfl hne⟩⟩
   rw[List.eq_nil_iff_forall_not_mem]
   intro i hi
   obtain⟨h0,o,ho,_⟩:=mem_ready.1 hi
   have hi':i<ops.size:=(Array.getElem?_eq_some_iff.1 ho).1
   have:=hlist i hi'
   rw[←b0p (by rw[hI.size];exact hi')]at this
   rw[this]at h0;cases h0
  | succ fuel ih=>
   intro listed A W pre ms Pd ea E H R hc hI hhd
   have hne: ∃i,i∈Region.ready .any ops listed:=by
    have hex: ∃i,i<ops.size∧listed.getD i false=false:=by
     have hpos:0<listed.toList.count false:=by omega
     obtain⟨i,hi,hf⟩:=List.getElem_of_mem (List.count_pos_iff.1 hpos)
     have hi':i<listed.size:=by simpa using hi
     exact⟨i,by rw[←hI.size];exact hi',by simpa[Array.getD,hi']using hf⟩
    obtain⟨i,⟨hi,hf⟩,hmin⟩: ∃i,(i<ops.size∧listed.getD i false=false)∧ ∀j,j<i→ ¬(j<ops.size∧listed.getD j false=false):=by
     obtain⟨i,h⟩:=hex
     exact p0r ⟨i,h⟩
    have hio:ops[i]? =some ops[i]:=by simp[hi]
    refine⟨i,mem_ready.2 ⟨by rw[b0p (by rw[hI.size];exact hi)];exact hf,_,hio,fun e he hb=> ?_⟩⟩
    have:=hback i _ hio e he hb
    cases hb2:listed.getD e.on false with
    |true=>rfl
    |false=>exact absurd ⟨by omega,hb2⟩ (hmin e.on this)
   refine⟨fun e=>(by obtain⟨i,hi⟩:=hne;rw[e]at hi;cases hi),fun i hi=> ?_⟩
   obtain⟨h0,o,ho,hdeps⟩:=mem_ready.1 hi
   have hio:i<ops.size:=(Array.getElem?_eq_some_iff.1 ho).1
   have hf:listed.getD i false=false:=by rw[←b0p (by rw[hI.size];exact hio)];exact h0
   have hil:i<listed.size:=by rw[hI.size];exact hio
   have hanc: ∀j,j∈(c0G ops.toList []).getD i []→listed.getD j false=true:=fun j hj=>d0j hI.closed hback i o ho hdeps j hj
   have hcl:=c0o hI.closed ho hil hdeps
   have hcnt:fuel=(listed.setIfInBounds i true).toList.count false:=by
    have hcs:=a0Z listed.toList i (by simpa using hil) (by simpa[Array.getD,hil]using hf)
    simp only[Array.toList_setIfInBounds]
    omega
   have hgd: ∀k,k≠i→(listed.setIfInBounds i true).getD k false=listed.getD k false:=fun k hk=>getD_set_ne false (Ne.symm hk)
   have hgi:(listed.setIfInBounds i true).getD i false=true:=by simp[Array.getD,hil]
   have hsz:(listed.setIfInBounds i true).size=ops.size:=by simpa using hI.size
   obtain⟨hPm,hni⟩:=(hI.part i hio).1 hf
   by_cases hia:i=al.i
   ·
    have hea:ea=none:=Classical.byContradiction fun hne=>hni hne hia
    subst hea
    obtain rfl:o=oa:=by rw[hia,hoa]at ho;exact(Option.some.inj ho).symm
    have hnP:al.i∉Pd:=fun hp=>by
     have:=hkd _ _ (by rw[hI.ord];exact List.mem_append_left _ (hI.pdp _ hp)) rfl
     cases this
    have hmm:(al.i,true)∈ms:=by
     rcases hPm with h1|h1
     ·exact absurd (hia▸h1) hnP
     ·obtain⟨⟨j,c⟩,hq,hji⟩:=List.mem_map.1 h1
      simp only at hji
      have hji':j=al.i:=hji.trans hia
      have:=hkd j c (by rw[hI.ord];exact List.mem_append_right _ hq) hji'
      rw[←hji',←this];exact hq
    have hs:=hopa R A W hI.rels.rlt (fun e he=>(by cases he)) (fun e he=>(by cases he)) ⟨hI.defers,hI.tmps,fun t v ht=>(by cases ht)⟩
    have hnext: ∀u W',(∃v' Hn R',b0f (fun b=> .val (.pointer (some ⟨b,0,none⟩))) al.T al.room al.xs v' Hn∧Post1 R W v' Hn u W' R')→wpAny P .any ops Q fuel (listed.setIfInBounds i true) (A.put o.dst u) W':=by
     rintro u W' ⟨v',Hn,R',⟨b,rfl,rfl⟩,hp⟩
     have hu:=hp.val.val_inv
     subst hu
     have hrel:RelS Γ R' (H++(al.hs (some b)++Hs)) W':=by
      refine(hI.rels.step hp).perm ?_
      show(H++([al.he b]++Hs)).Perm ([al.he b]++(H++([]++Hs)))
      exact(List.perm_middle (a:=al.he b) (l₁:=H) (l₂:=Hs))
     have hI':NI P Γ ops al Hs (fun E' H'=>AQ Γ Q .normal E' (H'++Hs)) ord (listed.setIfInBounds i true) (A.put o.dst (.pointer (some ⟨b,0,none⟩))) W' pre ms Pd (some b) E H R':=by
      refine⟨hsz,hcl,fun k hk=> ?_,hI.ord,hI.pdp,hI.am,hI.pend,hrel,fun b' hb'=> ?_,?_,?_,fun t x ht hpd hne=> ?_⟩
      ·by_cases hki:k=i
       ·subst hki
        rw[hgi]
        simp[hia]
       ·rw[hgd k hki,hI.part k hk]
        have hka:k≠al.i:=fun e=>hki (e.trans hia.symm)
        simp[hka]
      ·cases hb'
       refine⟨hmm,?_⟩
       rw[hda,a0G (by rw[hI.tmps];exact hNa)]
      ·rw[hda];exact hI.defers
      ·rw[hda];simp[Act.put,hI.tmps]
      ·have hdt:al.d≠t:=fun e=>hne (by simp) e.symm
       rw[hda,a0j hdt]
       exact(hI.act t x ht hpd fun h=>absurd rfl h).mono hp.sub (c0R hp.ext hI.rels.rlt)
     obtain⟨pre',ms',Pd',ea',E',H',hI2,hh2⟩:=hI'.absorb hpairs hal
     exact ih _ _ _ pre' ms' Pd' ea' E' H' R' hcnt hI2 hh2
    unfold wpOp
    rw[ho]
    show if Region.wanted o (yielded ops A.tmps)=true then _ else _
    rw[if_pos (by unfold Region.wanted;rw[hga])]
    refine .inl (Oper.wp_mono ?_ (b0v hs))
    rintro A' W' ⟨u,v',Hn,R',rfl,hn,hp⟩
    exact hnext u W' ⟨v',Hn,R',hn,hp⟩
   rcases hPm with hPd|hms
   ·
    obtain⟨o',d,v,ho',hd,hN,hlk,hop⟩:=hI.pend i hPd
    obtain rfl:o=o':=by rw[ho]at ho';exact Option.some.inj ho'
    have hA:=hI.reads hpairs hal ho hdeps (b:=false) (.inl ⟨hI.pdp i hPd,hPd,rfl⟩)
    have hs:=hop R A W hI.rels.rlt (fun e he=>hI.rels.ok e (List.mem_append_right _ (List.mem_append_right _ he))) (fun e he b hb=>(hI.rels.own e (List.mem_append_right _ (List.mem_append_right _ he)) b hb).2) hA
    have hnext: ∀u W',(∃v' Hn R',Is v v' Hn∧Post1 R W v' Hn u W' R')→wpAny P .any ops Q fuel (listed.setIfInBounds i true) (A.put o.dst u) W':=by
     rintro u W' ⟨v',Hn,R',⟨rfl,rfl⟩,hp⟩
     have hnm:i∉ms.map Prod.fst:=fun hm=>by
      obtain⟨⟨j,c⟩,hq,hji⟩:=List.mem_map.1 hm
      have hq2:=(a0n (pre:=pre) (r:=ms) (by rw[←hI.ord];exact hpairs)).2 _ (hI.pdp i hPd) _ hq
      simp only at hji
      subst hji
      exact(b0l hq2 ho ho).ne rfl
     have hdne:ea≠none→d≠al.d:=fun hne e=>by
      obtain⟨b',hb'⟩:=Option.ne_none_iff_exists'.1 hne
      have hq2:=(a0n (pre:=pre) (r:=ms) (by rw[←hI.ord];exact hpairs)).2 _ (hI.pdp i hPd) _ (hI.eal b' hb').1
      obtain⟨d',h1,h2,h3⟩:=(b0l hq2 ho hoa).flt (.inr rfl)
      rw[hda]at h1;cases h1
      exact h3 (by rw[hd,e])
     refine ih _ _ _ pre ms (Pd.filter (· ≠i)) ea E H R' hcnt ⟨hsz,hcl,fun k hk=> ?_,hI.ord,fun k hk=>hI.pdp k (List.mem_filter.1 hk).1,hI.am,fun k hk=>hI.pend k (List.mem_filter.1 hk).1,by simpa using hI.rels.step hp,fun b' hb'=> ?_,?_,?_,fun t x ht hpd hne=> ?_⟩ hhd
     ·by_cases hki:k=i
      ·subst hki
       rw[hgi]
       simp[hnm]
      ·rw[hgd k hki,hI.part k hk]
       simp[hki]
     ·obtain⟨h1,h2⟩:=hI.eal b' hb'
      refine⟨h1,?_⟩
      rw[hd,a0j (hdne (by rw[hb'];simp))];exact h2
     ·rw[hd];exact hI.defers
     ·rw[hd];simp[Act.put,hI.tmps]
     ·rw[hd]
      by_cases hdt:d=t
      ·subst hdt
       rw[hlk]at ht
       cases ht
       rw[a0G (by rw[hI.tmps];exact hN)];exact hp.val
      ·rw[a0j hdt]
       refine(hI.act t x ht (fun k hk ok hok hdk=> ?_) ?_).mono hp.sub (c0R hp.ext hI.rels.rlt)
       by_cases hki:k=i
       ·subst hki
        rw[ho]at hok
        cases hok
        rw[hd]at hdk
        cases hdk
        exact hdt rfl
       ·exact hpd k (List.mem_filter.2 ⟨hk,by simpa using hki⟩) ok hok hdk
       ·exact hne
    unfold wpOp
    rw[ho]
    unfold e0L at hs
    show if Region.wanted o (yielded ops A.tmps)=true then _ else _
    split
    ·rename_i hw
     rw[if_pos hw]at hs
     refine .inl (Oper.wp_mono ?_ (b0v hs))
     rintro A' W' ⟨u,rfl,hp⟩
     exact hnext u W' hp
    ·rename_i hw
     rw[if_neg hw]at hs
     exact hnext _ _ hs
   ·
    rcases hhd with rfl|⟨m,r,rfl,hm0⟩
    ·cases hms
    have hmlt:m<ops.size:=by have:=hlt (m,true) (by rw[hI.ord];simp);simpa using this
    have hmf:listed.getD m false=false:=(hI.part m hmlt).2 ⟨.inr (by simp),fun hne e=>hne (hm0 e)⟩
    have him:i=m:=by
     rcases List.mem_cons.1 hms with h|h
     ·exact h
     ·exfalso
      obtain⟨⟨j,c⟩,hq,hji⟩:=List.mem_map.1 h
      simp only at hji
      subst hji
      have h9:=(a0n (pre:=pre++[(m,true)]) (r:=r) (by have:=hI.ord;rw[List.append_assoc,List.singleton_append,←this];exact hpairs)).2 (m,true) (by simp) _ hq
      have hom:ops[m]? =some ops[m]:=by simp[hmlt]
      have:=hanc m ((b0l h9 hom ho).main rfl hia)
      rw[hmf]at this;cases this
    subst him
    have ham0:=hI.am
    rw[AN,if_neg hia]at ham0
    obtain⟨o',ho',hAO⟩:=ham0
    obtain rfl:o=o':=by rw[ho]at ho';exact Option.some.inj ho'
    have hA:=hI.reads hpairs hal ho hdeps (b:=true) (.inr ⟨r,rfl,hia⟩)
    have hs:=hAO W R R A W ⟨Mods.refl _ _,hI.rels.rlt,fun _ h=>h,fun _ h=> .inl h,fun e he=>hI.rels.ok e (List.mem_append_left _ he),fun e he b hb=>⟨.inr ⟨e,he,hb⟩,(hI.rels.own e (List.mem_append_left _ he) b hb).2⟩,(List.pairwise_append.1 hI.rels.disj).1⟩ hA
    have hnext: ∀u W',QS ⟨W,a0z H,R,Γ.N⟩ o.dst (fun v H'=>AN P Γ.N ops al Hs (fun E' H'=>AQ Γ Q .normal E' (H'++Hs)) r (a0w o.dst v E) H') .normal (A.put o.dst u) W'→wpAny P .any ops Q fuel (listed.setIfInBounds i true) (A.put o.dst u) W':=by
     rintro u W' ⟨hdf,v,H',R',ham,hsr,hvr⟩
     obtain⟨hrel,hRW⟩:=RelS.part hI.rels hsr
     have hpd: ∀k∈Pd,∀ok,ops[k]? =some ok→ ∀d,o.dst=some d→d∉ok.looksAt ops∧ok.dst≠some d:=fun k hk ok hok d hd=>by
      have h9:=(a0n (pre:=pre) (r:=(i,true)::r) (by rw[←hI.ord];exact hpairs)).2 _ (hI.pdp k hk) (i,true) (List.mem_cons_self ..)
      have hkf:listed.getD k false=false:=(hI.part k (Array.getElem?_eq_some_iff.1 hok).1).2 ⟨.inl hk,fun _ e=>(by have:=hkd _ _ (by rw[hI.ord];exact List.mem_append_left _ (hI.pdp k hk)) e;cases this)⟩
      have hno:k∉(c0G ops.toList []).getD i []:=fun hm=>by
       have:=hanc k hm
       rw[hkf]at this;cases this
      exact⟨fun hm=>hno ((b0l h9 hok ho).mn rfl hia d hd (.inl hm)),fun he=>hno ((b0l h9 hok ho).mn rfl hia d hd (.inr he))⟩
     have hnr:i∉r.map Prod.fst:=fun hm=>by
      obtain⟨⟨j,c⟩,hq,hji⟩:=List.mem_map.1 hm
      have h9:=(a0n (pre:=pre++[(i,true)]) (r:=r) (by have:=hI.ord;rw[List.append_assoc,List.singleton_append,←this];exact hpairs)).2 (i,true) (by simp) _ hq
      simp only at hji
      subst hji
      exact(b0l h9 ho ho).ne rfl
     have hnp:i∉Pd:=fun hk=>by
      have h9:=(a0n (pre:=pre) (r:=(i,true)::r) (by rw[←hI.ord];exact hpairs)).2 _ (hI.pdp i hk) (i,true) (List.mem_cons_self ..)
      exact(b0l h9 ho ho).ne rfl
     have hdne:ea≠none→o.dst≠some al.d:=fun hne=>by
      obtain⟨b',hb'⟩:=Option.ne_none_iff_exists'.1 hne
      rcases List.mem_cons.1 (hI.eal b' hb').1 with h1|h1
      ·cases h1;exact absurd rfl hia
      ·have h9:=(a0n (pre:=pre++[(i,true)]) (r:=r) (by have:=hI.ord;rw[List.append_assoc,List.singleton_append,←this];exact hpairs)).2 (i,true) (by simp) _ h1
       obtain⟨d',h1,h2,h3⟩:=(b0l h9 ho hoa).flt (.inr rfl)
       rw[hda]at h1;cases h1
       exact h3
     have hI':NI P Γ ops al Hs (fun E' H'=>AQ Γ Q .normal E' (H'++Hs)) ord (listed.setIfInBounds i true) (A.put o.dst u) W' (pre++[(i,true)]) r Pd ea (a0w o.dst v E) H' R':=by
      refine⟨hsz,hcl,fun k hk=> ?_,by rw[hI.ord];simp,fun k hk=>List.mem_append_left _ (hI.pdp k hk),ham,fun k hk=> ?_,hrel,fun b' hb'=> ?_,hdf,?_,fun t x ht hp hne=> ?_⟩
      ·by_cases hki:k=i
       ·subst hki
        rw[hgi]
        simp[hnr,hnp]
       ·rw[hgd k hki,hI.part k hk]
        simp[hki]
      ·obtain⟨ok,dk,vk,h1,h2,h3,h4,h5⟩:=hI.pend k hk
       refine⟨ok,dk,vk,h1,h2,h3,?_,?_⟩
       ·cases hd:o.dst with
        |none=>exact h4
        |some d=>rw[a0w,a0J (fun e=>(hpd k hk ok h1 d hd).2 (by rw[h2,e]))];exact h4
       ·cases hd:o.dst with
        |none=>exact h5
        |some d=>rw[a0w,b0c (hpd k hk ok h1 d hd).1];exact h5
      ·obtain⟨h1,h2⟩:=hI.eal b' hb'
       refine⟨(List.mem_cons.1 h1).resolve_left fun e=>(by cases e;exact hia rfl),?_⟩
       cases hd:o.dst with
       |none=>exact h2
       |some d=>rw[a0j (fun e=>hdne (by rw[hb'];simp) (by rw[hd,e]))];exact h2
      ·cases hd:o.dst<;>simp[Act.put,hI.tmps]
      ·cases hd:o.dst with
       |none=>
        rw[hd]at ht
        exact(hI.act t x ht hp hne).mono hsr.rsub hRW
       | some d=>
        rw[hd,a0w]at ht
        by_cases hdt:d=t
        ·subst hdt
         rw[b0o]at ht
         cases ht
         have:=hvr d hd
         rwa [hd]at this
        ·rw[a0J hdt]at ht
         rw[a0j hdt]
         exact(hI.act t x ht hp hne).mono hsr.rsub hRW
     obtain⟨pre',ms',Pd',ea',E',H'',hI2,hh2⟩:=hI'.absorb hpairs hal
     exact ih _ _ _ pre' ms' Pd' ea' E' H'' R' hcnt hI2 hh2
    unfold wpOp
    rw[ho]
    unfold wpList at hs
    show if Region.wanted o (yielded ops A.tmps)=true then _ else _
    split
    ·rename_i hw
     rw[if_pos hw]at hs
     refine .inl ?_
     rcases hs with hs|⟨-,a',w',hl⟩
     ·have hs2:o.wp P A W (wpList P ops (QS ⟨W,a0z H,R,Γ.N⟩ o.dst (fun v H'=>AN P Γ.N ops al Hs (fun E' H'=>AQ Γ Q .normal E' (H'++Hs)) r (a0w o.dst v E) H')) []) NoQ:=by
       unfold Oper.wp at hs⊢
       revert hs
       cases(execOp A.eval o).run P W with
       | ok n w'=>
        cases n with
        |enter f args=>
         intro hs
         refine Calls.mono hs ?_
         intro e w'' he
         cases e with
         |returned v=>exact he
         |outgrown=>obtain⟨a',w',hl⟩:=he;exact hl.elim
         |_=>exact he.elim
        |_=>exact fun h=>h
       |halt x w'=>cases x<;>exact fun h=>h
      refine Oper.wp_mono ?_ (b0v (Oper.wp_put hs2))
      rintro A' W' ⟨hq,hA'⟩
      have hq':QS ⟨W,a0z H,R,Γ.N⟩ o.dst (fun v H'=>AN P Γ.N ops al Hs (fun E' H'=>AQ Γ Q .normal E' (H'++Hs)) r (a0w o.dst v E) H') .normal A' W':=hq
      rcases hA' with⟨u,rfl⟩|hnd
      ·exact hnext u W' hq'
      ·exact absurd hq'.1 hnd
     ·exact hl.elim
    ·rename_i hw
     rw[if_neg hw]at hs
     exact hnext _ _ hs
 have hs:RelS Γ R (Hm++Hs) W.drew:=(RelS.perm ⟨hs0.mods.drew,hs0.rlt,hs0.rsub,hs0.rnew,fun e he=>HE.ok_mono (W:=W) (W':=W.drew) (fun _ h=>h) (fun _ _=>rfl) (Nat.le_refl _) (fun _ _=>rfl) (hs0.ok e he),hs0.own,hs0.disj⟩ hH.symm)
 have ha:RelA Γ.N R W.drew E a:=ha0.mono (fun _ h=>h) (fun _ _=>rfl)
 refine wp_region_any hm ?_
 rw[←hops]
 have hI:NI P Γ ops al Hs (fun E' H'=>AQ Γ Q .normal E' (H'++Hs)) ord (Array.replicate ops.size false) a W.drew [] ord [] none E Hm R:=by
  refine⟨by simp,fun i o hl=> ?_,fun i hi=> ?_,rfl,fun i hi=>(by cases hi),h,fun i hi=>(by cases hi),by simpa[Al.hs]using hs,fun _ h=>(by cases h),ha.defers,ha.size,fun t v ht _ _=>ha.slots t v ht⟩
  ·exfalso
   by_cases h:i<ops.size<;>simp[Array.getD,h]at hl
  ·have:=hall i hi
   simp only[List.contains_eq_mem,cQ]at this
   simp[Array.getD,hi,this]
 obtain⟨pre',ms',Pd',ea',E',H'',hI2,hh2⟩:=hI.absorb hpairs hal
 exact main _ _ _ _ pre' ms' Pd' ea' E' H'' R (by simp) hI2 hh2
theorem AN.op {i d:Nat}{r:List (Nat×Bool)}{E:Env}{H:List HE}{o:Oper}{v:AV}(ho:ops[i]? =some o)(h:OpW P N o (rst E (o.looksAt ops)) Hs (Is v))(hw:a0f ops (rst E (o.looksAt ops)) o=some true)(hd:o.dst=some d)(hN:Nat.ble (d+1) N=true)(k:AN P N ops al Hs K r ((d,v)::E) H):
  AN P N ops al Hs K ((i,false)::r) E H:=⟨o,d,v,ho,hd,lB hN,.run hw h,k⟩
theorem wW {i d:Nat}{r:List (Nat×Bool)}{E:Env}{H:List HE}{o:Oper}{v:AV}(k:AN P N ops al Hs K r ((d,v)::E) H)(ho:ops[i]? =some o:=by exact rfl)(h:OpW P N o (rst E (o.looksAt ops)) Hs (Is v):=by exact(O.move rfl rfl))(hw:a0f ops (rst E (o.looksAt ops)) o=some true:=by exact rfl)(hd:o.dst=some d:=by exact rfl)(hN:Nat.ble (d+1) N=true:=by exact rfl):AN P N ops al Hs K ((i,false)::r) E H:=AN.op ho h hw hd hN k
theorem va {i d:Nat}{r:List (Nat×Bool)}{E:Env}{H:List HE}{o:Oper}{v:AV}(k:AN P N ops al Hs K r ((d,v)::E) H)(ho:ops[i]? =some o:=by exact rfl)(h:OpW P N o (rst E (o.looksAt ops)) Hs (Is v):=by exact(O.loadK rfl rfl mM (by(dsimp only[List.set,cA,cN,List.take,List.drop];done)) (by rfl)))(hw:a0f ops (rst E (o.looksAt ops)) o=some true:=by exact rfl)(hd:o.dst=some d:=by exact rfl)(hN:Nat.ble (d+1) N=true:=by exact rfl):AN P N ops al Hs K ((i,false)::r) E H:=AN.op ho h hw hd hN k
theorem vR {i d:Nat}{r:List (Nat×Bool)}{E:Env}{H:List HE}{o:Oper}{v:AV}(ho:ops[i]? =some o)(h:OpW P N o (rst E (o.looksAt ops)) Hs (Is v))(k:AN P N ops al Hs K r ((d,v)::E) H)(hw:a0f ops (rst E (o.looksAt ops)) o=some true:=by exact rfl)(hd:o.dst=some d:=by exact rfl)(hN:Nat.ble (d+1) N=true:=by exact rfl):AN P N ops al Hs K ((i,false)::r) E H:=AN.op ho h hw hd hN k
theorem AN.opG {i d:Nat}{r:List (Nat×Bool)}{E:Env}{H:List HE}{o:Oper}{c:Bool}{v:AV}(ho:ops[i]? =some o)(hw:a0P ops (rst E (o.looksAt ops)) o=some c)(hd:o.dst=some d)(hN:Nat.ble (d+1) N=true)(h:c=true→OpW P N o (rst E (o.looksAt ops)) Hs (Is v))(k:AN P N ops al Hs K r ((d,.opt c v)::E) H):
  AN P N ops al Hs K ((i,false)::r) E H:=⟨o,d,_,ho,hd,lB hN,.opt hw h,k⟩
theorem AN.no {i d:Nat}{r:List (Nat×Bool)}{E:Env}{H:List HE}{o:Oper}(ho:ops[i]? =some o)(hw:a0f ops (rst E (o.looksAt ops)) o=some false)(hd:o.dst=some d)(hN:Nat.ble (d+1) N=true)(k:AN P N ops al Hs K r ((d,.val undef)::E) H):
  AN P N ops al Hs K ((i,false)::r) E H:=⟨o,d,_,ho,hd,lB hN,.no hw,k⟩
theorem AN.main {i:Nat}{r:List (Nat×Bool)}{E:Env}{H:List HE}(o:Oper)(ho:ops[i]? =some o)(hne:Nat.beq i al.i=false)(h: ∀w0 R0,AO ⟨w0,a0z H,R0,N⟩ P ops (QS ⟨w0,a0z H,R0,N⟩ o.dst (fun v H'=>AN P N ops al Hs K r (a0w o.dst v E) H')) [o] (rst E (o.looksAt ops)) H):
  AN P N ops al Hs K ((i,true)::r) E H:=by rw[AN,if_neg (Nat.ne_of_beq_eq_false hne)];exact⟨o,ho,h⟩
theorem AN.box {i:Nat}{r:List (Nat×Bool)}{E:Env}{H:List HE}(he:i=al.i)(k: ∀b,AN P N ops al Hs K r ((al.d,.val (.pointer (some ⟨b,0,none⟩)))::E) (al.he b::H)):AN P N ops al Hs K ((i,true)::r) E H:=by rw[AN,if_pos he];exact k
theorem Al.mk' {ops:Array Oper}{i d T room:Nat}{xs:List AV}{bs:Nat}{z:Value}(o:Oper)(ho:ops[i]? =some o)(hd:o.dst=some d)(hN:Nat.ble (d+1) N=true)(hg:o.guard=none)[hn:TyN P T room bs z](hop:o.op= .alloc T)(hx:z.cells.toList.map AV.val=xs)(hk:z.cells.size=room):Al.ok P N ops ⟨i,d,T,room,xs⟩:=
 ⟨o,ho,hd,lB hN,hg,O.alloc hop hx hk⟩
theorem AN.nil {E:Env}{H:List HE}(h:K E H):AN P N ops al Hs K [] E H:=h
end
end Go.Proofs.YtojomcdjcpmnkaaGreat.A
namespace Go.Proofs.YtojomcdjcpmnkaaGreat.By
open Go.RowKit L A
attribute [local irreducible] AW AQ AO
structure Obs where
 peer:Int
 tok:List UInt8
 ctx:List UInt8
 kid:List UInt8
 piv:Int
 path:ByteArray
def Obs.none:Obs:=⟨0,[],[],[],0,ByteArray.empty⟩
def f0O (o:Obs):List AV:= [.val (.int .i64 o.peer),roB o.tok,roB o.ctx,roB o.kid,.val (.int .i64 o.piv),.val (.string o.path)]
theorem d0w (o:Obs):(f0O o).length=6:=rfl
abbrev g0l (o:Obs):AV:= .agg [.val (.int .i64 o.peer),roB o.tok,roB o.ctx,roB o.kid,.val (.int .i64 o.piv),.val (.string o.path)]
def i0e (os:List Obs):List AV:=os.flatMap f0O
def j0U (os:List Obs):AV:= .ro false os.length (i0e os)
abbrev c0r (os:List Obs)(k:Nat):Obs:=os.getD k Obs.none
@[simp] theorem u0A (os:List Obs):(i0e os).length=os.length*6:=e0Y d0w os
theorem p0k (a b:List Obs):i0e (a++b)=i0e a++i0e b:=k0s a b
theorem i0d (a:List Obs)(o:Obs):i0e (a++[o])=i0e a++[.val (.int .i64 o.peer),roB o.tok,roB o.ctx,roB o.kid,.val (.int .i64 o.piv),.val (.string o.path)]:=f0C a o
theorem p0F {os:List Obs}{k:Nat}(h:k<os.length){j:Nat}(hj:j=k):((i0e os).drop (j*6)).take 6= [.val (.int .i64 (c0r os k).peer),roB (c0r os k).tok,roB (c0r os k).ctx,roB (c0r os k).kid,.val (.int .i64 (c0r os k).piv),.val (.string (c0r os k).path)]:=e0m d0w Obs.none h hj
theorem r0v {n:Nat}{xs:List AV}{os:List Obs}(h1:n=os.length)(h2:xs=i0e os):AV.ro false n xs=j0U os:=by subst h1;subst h2;rfl
def eqS (a b:ByteArray):Bool:=a.toList==b.toList
def e0A (o:Obs):Bool:=decide (0≤o.peer)&&decide (o.peer≤65536)&&decide ((o.tok.length:Int)≤8)&&decide ((o.path.size:Int)≤64)
def c0N (a b:Obs):Bool:=a.peer==b.peer&&(a.tok==b.tok||eqS a.path b.path)
theorem j0W (o:Obs):Sp Tryz.prog 133 [g0l o] [] (Is (.val (.bool (e0A o)))):=by
 refine yH Tryz.func133 _ Tryz.ntmps133 (fun w0 R0=> ?_)
 refine zC (zq ?_)
 refine z9 ?_
 intro B1
 refine zc (zH (zn (zC (zq ?_))))
 refine zt ?_
 refine zA ?_
 refine xR ?_
 refine zb ?_
 refine zK ?_
 refine zu 7 ?_
 refine xr 8 ?_
 refine zN ?_
 refine zb ?_
 refine zK ?_
 refine zu 12 ?_
 refine yg 13 ?_
 refine xr 14 ?_
 refine zN ?_
 refine zb ?_
 refine zK ?_
 refine zu 18 ?_
 refine AO.opG rfl rfl rfl (fun hp=>wP 19 rfl (by exact hp) (O.lenS rfl rfl)) ?_
 refine xr 20 ?_
 refine zN ?_
 refine zc (zH (zn (y3 ?_)))
 refine yw
theorem j0M (a b:List UInt8):Sp Tryz.prog 85 [roB a,roB b] [] (Is (.val (.bool (a==b)))):=by
 refine yH Tryz.func85 _ Tryz.ntmps85 (fun w0 R0=> ?_)
 refine zC (zq ?_)
 refine zc (zH (zn (zC (zq ?_))))
 refine zb ?_
 refine vx ?_
 refine zb ?_
 refine vx ?_
 refine vO (O.eqlS rfl rfl rfl (by rfl)) ?_
 refine zc (zH (zn (y3 ?_)))
 refine vm rfl rfl nS (⟨by rw[a0L,a0L],rfl⟩)
theorem k0l (a b:Obs):Sp Tryz.prog 136 [g0l a,g0l b] [] (Is (.val (.bool (c0N a b)))):=by
 refine yH Tryz.func136 _ Tryz.ntmps136 (fun w0 R0=> ?_)
 refine zC (zq ?_)
 refine z9 ?_
 intro B1
 refine z9 ?_
 intro B2
 refine zc (zH (zn (zC (zq ?_))))
 refine zt ?_
 refine zp ?_
 refine zt ?_
 refine zA ?_
 refine yi ?_
 refine zb ?_
 refine zK ?_
 refine zT 11 ?_
 refine zK ?_
 refine zu 13 ?_
 refine AO.opG rfl rfl rfl (fun hp=>wP 12 rfl (by exact hp) (wP 14 rfl (by exact hp) (xD rfl Tryz.func85 rfl rfl rfl (j0M _ _)))) ?_
 refine wG 15 ?_
 refine zK ?_
 refine zT 17 ?_
 refine zK ?_
 refine zu 19 ?_
 refine AO.opG rfl rfl rfl (fun hp=>wP 18 rfl (by exact hp) (wP 20 rfl (by exact hp) (O.eqlS rfl rfl rfl (by rfl)))) ?_
 refine AO.opG rfl rfl rfl (fun hp=>wP 16 rfl (by exact hp) (O.pickOr rfl rfl rfl rfl (fun h=>by simp_all))) ?_
 refine zN ?_
 refine zc (zH (zn (y3 ?_)))
 refine yw
theorem b0s (l:List UInt8)(hl:l.length≤4294967296):Sp Tryz.prog 89 [roB l] [] (Is (roB l)):=by
 refine yH Tryz.func89 _ Tryz.ntmps89 (fun w0 R0=> ?_)
 refine zC (zq ?_)
 refine zc (zH (zn (zC (zq ?_))))
 refine zb ?_
 refine yA ?_
 intro V1 hV1
 refine zc (zH (zn (y3 ?_)))
 refine AQ.g ?_
 refine yj 0 [2] ?_
 refine AQ.u ?_
 try dsimp only[List.map,List.eraseIdx,cA,cN]
 refine yw
theorem f0S (x y:List UInt8)(n:Int)(hx:x.length≤4294967296)(hy:y.length≤4294967296):Sp Tryz.prog 90 [.agg [roB x,roB y,.val (.int .i64 n)]] [] (Is (.agg [roB x,roB y,.val (.int .i64 n)])):=by
 refine yH Tryz.func90 _ Tryz.ntmps90 (fun w0 R0=> ?_)
 refine zC (zq ?_)
 refine z9 ?_
 intro B1
 refine z7 ?_
 intro B2
 refine zH (zn (zC ?_))
 refine yo 9 ?_
 simp only[cT,cZ,cD,cO]
 refine yn ?_
 refine zO ?_
 refine vP (xD rfl Tryz.func89 rfl rfl rfl (b0s _ (by assumption))) ?_
 refine yn ?_
 refine zO ?_
 refine vP (xD rfl Tryz.func89 rfl rfl rfl (b0s _ (by assumption))) ?_
 refine yn ?_
 refine zO ?_
 refine xN ?_
 refine vf ?_
 simp only[a0g,cN,cA,cP]
 refine zm 0 (zH (zn (y3 ?_)))
 refine AQ.retCell rfl rfl (by repeat(exact List.Mem.head _)) (by rfl) rfl nS (⟨rfl,rfl⟩)
def ShortOb (os:List Obs):Prop:=os.length≤1000000∧ ∀o∈os,o.tok.length≤4294967296∧o.ctx.length≤4294967296∧o.kid.length≤4294967296
theorem ShortOb.at {os:List Obs}(h:ShortOb os){k:Nat}(hk:k<os.length):(c0r os k).tok.length≤4294967296∧(c0r os k).ctx.length≤4294967296∧(c0r os k).kid.length≤4294967296:=h.2 _ (b0d _ hk)
def f0w (K:Obs→Bool)(os:List Obs)(k:Nat):List Obs:=(os.take k).filter K
theorem g0E {K:Obs→Bool}{os:List Obs}{k:Nat}(h:k<os.length):f0w K os (k+1)=f0w K os k++if K (c0r os k)=true then [c0r os k]else []:=by
 rw[f0w,a0i Obs.none h,List.filter_append]
 congr 1
 rw[List.filter_cons,List.filter_nil]
theorem k0o (K:Obs→Bool)(os:List Obs)(k:Nat):(f0w K os k).length≤k:=by
 have h1:=List.length_filter_le K (os.take k)
 have h2:=List.length_take_le k os
 unfold f0w;omega
theorem i0j (K:Obs→Bool)(os:List Obs):f0w K os os.length=os.filter K:=by simp[f0w]
theorem r0e (x:Obs)(p:ByteArray):Sp Tryz.prog 137 [g0l x,.rp [.val (.string p)] 0] [] (Is (.val (.bool (eqS x.path p)))):=by
 refine yH Tryz.func137 _ Tryz.ntmps137 (fun w0 R0=> ?_)
 refine zC (zq ?_)
 refine z9 ?_
 intro B1
 refine zc (zH (zn (zC (zq ?_))))
 refine zt ?_
 refine zA ?_
 refine vO (O.loadR rfl rfl (by rfl)) ?_
 refine vO (O.eqlS rfl rfl rfl (by rfl)) ?_
 refine zc (zH (zn (y3 ?_)))
 refine yw
theorem j0h (os:List Obs)(hsh:ShortOb os)(K:Obs→Bool)(f:FuncId)(caps:List AV)(g:Func)(hf:Tryz.prog.funcs[f]? =some g)(hn:(g.name== "runtime.NumGoroutine")=false)(hb:g.body.isNone=false)
  (hk: ∀o,Sp Tryz.prog f ([g0l o]++caps) [] (Is (.val (.bool (K o))))):
  Sp Tryz.prog 134 [j0U os,.fn (.func f) caps] [] (b0e 75 6 (os.filter K).length (i0e (os.filter K))):=by
 have hlen:=hsh.1
 refine yH Tryz.func134 _ Tryz.ntmps134 (fun w0 R0=> ?_)
 refine zC (zq ?_)
 refine zc (zH (zn (zC (zq ?_))))
 refine zc (zH (zn (zC (zC (zq ?_)))))
 refine zb ?_
 refine zZ ?_
 refine zb (zH (zn (xb ?_)))
 refine AW.g ?_
 refine G.nilRow 75 6 ?_
 refine AW.u ?_
 refine zh [(1,_),(8,_),(9,_)] (fun nn E H=> ∃(k:Nat) (V:Value),(k≤os.length)∧(V.oneCell'=true)∧nn=os.length-k∧E= [(5,.val V),(10,.val (.int .i64 (k:Int)))]∧H= [.row V 75 6 (f0w K os k).length (i0e (f0w K os k))]) _ (⟨0,.slice none 0 0,by omega,rfl,rfl,rfl,rfl⟩) ?_
 rintro nn E H ⟨k,V,hk1,hV,rfl,rfl,rfl⟩
 dsimp only[cA,cN]
 refine zC (zq ?_)
 refine zR (zH (zn (zC ?_)))
 refine ym (fun hlt=> ?_) (fun hlt=> ?_)<;>(try simp only[vU]at hlt)
 ·have hkk:k<os.length:=by omega
  have hle:=k0o K os k
  have hv1:=(hsh.at hkk).1
  have hv2:=(hsh.at hkk).2.1
  have hv3:=(hsh.at hkk).2.2
  have hsc:=g0E (K:=K) hkk
  have hck:=hk (c0r os k)
  refine yU (zn (zC (xb (zC (zq ?_)))))
  refine yf ?_
  refine vO (O.loadRK rfl rfl (by exact p0F (by omega) (by omega)) (by rfl)) ?_
  refine zd ?_
  intro B1
  refine za 0 (zH (zn (zC (zq ?_))))
  refine zb ?_
  refine xW ?_
  refine vO (O.callV rfl rfl hf hn hb rfl hck) (zH (zn ?_))
  refine ym (fun hK=> ?_) (fun hK=> ?_)<;>(try simp only[vU]at hK)
  ·rw[if_pos hK]at hsc
   refine zC ?_
   refine yo 7 ?_
   simp only[cT,cZ,cD,cO]
   refine yn ?_
   refine yM ?_
   refine vP (xD rfl Tryz.func89 rfl rfl rfl (b0s _ (by assumption))) ?_
   refine yn ?_
   refine vP xV ?_
   refine vP (xD rfl Tryz.func90 rfl rfl rfl (f0S _ _ _ hv2 hv3)) ?_
   refine yn ?_
   refine vf ?_
   simp only[a0g,cN,cA,cP]
   refine za 0 ?_
   refine zt ?_
   refine za 0 (zH (zn (zq ?_)))
   refine zb ?_
   refine xW ?_
   refine zU ?_
   intro B2
   refine AO.g ?_
   refine yr 0 27 ?_
   refine wH 27 ?_
   refine AO.u ?_
   dsimp only[List.eraseIdx]
   refine zB 1 ?_
   intro V3 hV3
   refine zc (zH (xA (zn (zq ?_))))
   refine zx ?_
   refine zb (zH ?_)
   refine zJ _ _ _ (by omega) (⟨k+1,_,by omega,‹_›,rfl,rfl,by rw[hsc,i0d,cH]⟩)
  rw[if_neg (by rw[hK];exact Bool.false_ne_true),cP]at hsc
  refine yU (xA (zn (zq ?_)))
  refine zx ?_
  refine zb (zH ?_)
  refine zJ _ _ _ (by omega) (⟨k+1,V,by omega,hV,rfl,rfl,by rw[hsc]⟩)
 obtain rfl:k=os.length:=by omega
 rw[i0j]
 refine wm ?_
 refine xY ?_
 refine wa ?_
 refine xq (zn (zC (zq ?_)))
 refine zb ?_
 refine zc (zH (zn (y3 ?_)))
 refine vm rfl rfl ⟨_,by repeat(first|exact List.Sublist.slnil|refine List.Sublist.cons_cons _ ?_),List.Perm.refl _⟩ (⟨V,rfl,hV,rfl⟩)
def OkOb (os:List Obs)(k:Nat):Prop:= ∀i,i<k→e0A (c0r os i)=true∧ ∀j,j<i→c0N (c0r os i) (c0r os j)=false
instance (os:List Obs)(k:Nat):Decidable (OkOb os k):=by unfold OkOb;infer_instance
def c0I (os:List Obs):Bool:=decide (os.length≤16∧OkOb os os.length)
def q0m (os:List Obs)(o:Obs):List Obs×Int:=
 if c0I os=true∧e0A o=true then(if 16≤(os.filter fun x=> !c0N x o).length then([],16)else((os.filter fun x=> !c0N x o)++[o],0))else([],1)
abbrev t0t (r:List Obs×Int):AV:= .tup [j0U r.1,.val (.int .i64 r.2)]
theorem r0z {r:List Obs×Int}{a:List Obs}{e:Int}(h:r=(a,e)):Is (t0t r) (.tup [j0U a,.val (.int .i64 e)]) []:=by rw[h];exact⟨rfl,rfl⟩
def u0Q (os:List Obs)(p:ByteArray):List Obs:=os.filter fun x=>eqS x.path p
theorem k0L (os:List Obs)(p:ByteArray)(hsh:ShortOb os):Sp Tryz.prog 81 [j0U os,.val (.string p)] [] (Is (j0U (u0Q os p))):=by
 refine yH Tryz.func81 _ Tryz.ntmps81 (fun w0 R0=> ?_)
 refine zC (zq ?_)
 refine z9 ?_
 intro B1
 refine zc (zH (zn (zC (zq ?_))))
 refine zb ?_
 refine AO.g ?_
 refine G.freezePtr 0 3 rfl rfl ?_
 refine AO.u ?_
 dsimp only[List.eraseIdx]
 refine vO (O.fn rfl rfl) ?_
 refine vS (xD rfl Tryz.func134 rfl rfl rfl (j0h os hsh (fun x=>eqS x.path p) 137 _ _ Tryz.func137 rfl rfl (fun x=>r0e x p))) ?_
 intro V2 hV2
 refine zc (zH (zn (y3 ?_)))
 refine AQ.g ?_
 refine yj 0 [4] ?_
 refine AQ.u ?_
 try dsimp only[List.map,List.eraseIdx,cA,cN]
 refine yw
end Go.Proofs.YtojomcdjcpmnkaaGreat.By
namespace Go.Proofs.YtojomcdjcpmnkaaGreat.A
open Go.RowKit L
section
variable {Γ:Cx}{P:Program}{Q:Exit→Act→World→Prop}{E:Env}{H:List HE}{N:Nat}{o:Oper}{ops:Array Oper}{rest:List Oper}
theorem AO.callMV {f:FuncId}{g:Operand}{cap:List AV}{d:Nat}{xs:List Operand}{ats:Array TypeId}{args:List AV}{H0 H1:List HE}{Post:AV→List HE→Prop}{fn:Func}(ho:o.op= .call {callee:= .value g,args:=xs.toArray,argTypes:=ats})(hgd:o.guard=none)(hg:ev E g=some (.fn (.func f) cap))(hfn:P.funcs[f]? =some fn)(hn:(fn.name== "runtime.NumGoroutine")=false)(hb:fn.body.isNone=false)
  (hx:evs E xs=some args) (hd:o.dst=some d) (hN:d<Γ.N) (hH:H.Perm (H0++H1)) (h:Sp P f (args++cap) H0 Post) (next: ∀r H',Post r H'→AO Γ P ops Q rest ((d,r)::E) (H'++H1)):AO Γ P ops Q (o::rest) E H:=fun R a W hs ha=>by
 have hs0:=hs.perm hH.symm
 obtain⟨cs,h4,h5⟩:=(ha.ev hg).fn_inv
 have hrun:(execOp a.eval o).run P W= .ok (.enter f ((xs.map a.eval)++cs).toArray) W:=by
  simp[execOp,ho,resolve,Deferred.ofValue,h4,invoke,callFunc,hfn]
  rw[if_neg (by simpa using hn),if_neg (fun e=>by rw[e]at hb;cases hb)]
 have hc:=h W R (xs.map a.eval++cs) hs.rlt (fun e he=>⟨hs0.ok e (List.mem_append_left _ he),fun b hb=>(hs0.own e (List.mem_append_left _ he) b hb).2⟩) (List.pairwise_append.1 hs0.disj).1 ((ha.evs hx).app h5)
 unfold wpList
 rw[if_pos (by unfold Region.wanted;rw[hgd])]
 refine .inl ?_
 unfold Oper.wp
 rw[hrun]
 refine Calls.mono hc ?_
 rintro e W' ⟨u,r,H',R',rfl,hP,hs',hv⟩
 show wpList P ops Q rest (a.put o.dst u) W'
 rw[hd]
 have hS0: ∀b,a0z H0 b→Γ.w0.heap.size≤b∨Γ.S b:=fun b ⟨e,he,hb⟩=>(hs0.own e (List.mem_append_left _ he) b hb).1
 have hnR: ∀b,a0z H0 b→ ¬R b:=fun b ⟨e,he,hb⟩=>(hs0.own e (List.mem_append_left _ he) b hb).2
 have h1lt: ∀e∈H1,∀b,e.foot b→b<W.heap.size:=fun e he b hb=>HE.ok_lt (hs0.ok e (List.mem_append_right _ he)) hb
 have h10: ∀e∈H1,∀b,e.foot b→ ¬a0z H0 b:=fun e he b hb ⟨f,hf,hb'⟩=>(List.pairwise_append.1 hs0.disj).2.2 f hf e he b hb' hb
 have hR: ∀b,R b→W'.heap[b]? =W.heap[b]? :=fun b hb=>hs'.mods.block b (hs.rlt b hb) fun hh=>hnR b hh hb
 refine next r H' hP R' _ W' ⟨Mods.then hs.mods hs'.mods fun b hb hh=> ?_,hs'.rlt,fun b hb=>hs'.rsub b (hs.rsub b hb),fun b hb=> ?_,?_,?_,?_⟩ ((ha.mono hs'.rsub hR).put hN hv)
 ·rcases hS0 b hh with h|h
  ·omega
  ·exact h
 ·rcases hs'.rnew b hb with h|h|h
  ·exact hs.rnew b h
  ·exact .inr (.inl (Nat.le_trans hs.mods.size h))
  ·exact .inr (hS0 b h)
 ·intro e he
  rcases List.mem_append.1 he with he|he
  ·exact hs'.ok e he
  ·exact HE.ok_mono hs'.rsub hR hs'.mods.size (fun b hb=>hs'.mods.block b (h1lt e he b hb) (h10 e he b hb)) (hs0.ok e (List.mem_append_right _ he))
 ·intro e he b hb
  rcases List.mem_append.1 he with he|he
  ·obtain⟨h2,h3⟩:=hs'.own e he b hb
   refine⟨?_,h3⟩
   rcases h2 with h2|h2
   ·exact .inl (Nat.le_trans hs.mods.size h2)
   ·exact hS0 b h2
  ·refine⟨(hs0.own e (List.mem_append_right _ he) b hb).1,fun hr=> ?_⟩
   rcases hs'.rnew b hr with h|h|h
   ·exact(hs0.own e (List.mem_append_right _ he) b hb).2 h
   ·have h5:=h1lt e he b hb
    exact absurd h (by simpa using h5)
   ·exact h10 e he b hb h
 ·rw[List.pairwise_append]
  refine⟨hs'.disj,(List.pairwise_append.1 hs0.disj).2.1,fun e he f hf b hb hb'=> ?_⟩
  rcases(hs'.own e he b hb).1 with h|h
  ·have h5:=h1lt f hf b hb'
   exact absurd h (by simpa using h5)
  ·exact h10 f hf b hb' h
theorem AO.callMV1 {f:FuncId}{g:Operand}{cap:List AV}{d:Nat}{xs:List Operand}{ats:Array TypeId}{args:List AV}{i:Nat}{e e':HE}{v:AV}{H':List HE}{fn:Func}(ho:o.op= .call {callee:= .value g,args:=xs.toArray,argTypes:=ats})(hgd:o.guard=none)(hg:ev E g=some (.fn (.func f) cap))(hfn:P.funcs[f]? =some fn)(hn:(fn.name== "runtime.NumGoroutine")=false)(hb:fn.body.isNone=false)
  (hx:evs E xs=some args) (hd:o.dst=some d) (hN:Nat.ble (d+1) Γ.N=true) (hi:H[i]? =some e) (h:Sp P f (args++cap) [e] (IsM v e')) (hH:H.set i e'=H') (next:AO Γ P ops Q rest ((d,v)::E) H'):AO Γ P ops Q (o::rest) E H:=
 AO.callMV (H0:= [e]) (H1:=H.eraseIdx i) ho hgd hg hfn hn hb hx hd (lB hN) (d0L hi) h (by
  rintro _ _ ⟨rfl,rfl⟩
  exact AO.perm (by rw[←hH];exact h0f hi) next)
end
end Go.Proofs.YtojomcdjcpmnkaaGreat.A
namespace Go.Proofs.YtojomcdjcpmnkaaGreat.By
open Go.RowKit L A
attribute [local irreducible] AW AQ AO
theorem i0l (os:List Obs)(hsh:ShortOb os)(K:Obs→Bool)(f:FuncId)(caps:List AV)(g:Func)(hf:Tryz.prog.funcs[f]? =some g)(hn:(g.name== "runtime.NumGoroutine")=false)(hb:g.body.isNone=false)
  (e:HE) (hk: ∀o,Sp Tryz.prog f ([g0l o]++caps) [e] (IsM (.val (.bool (K o))) e)):
  Sp Tryz.prog 134 [j0U os,.fn (.func f) caps] [e] (fun r H'=> ∃v:Value,r= .val v∧v.oneCell'=true∧H'= [.row v 75 6 (os.filter K).length (i0e (os.filter K)),e]):=by
 have hlen:=hsh.1
 refine yH Tryz.func134 _ Tryz.ntmps134 (fun w0 R0=> ?_)
 refine zC (zq ?_)
 refine zc (zH (zn (zC (zq ?_))))
 refine zc (zH (zn (zC (zC (zq ?_)))))
 refine zb ?_
 refine zZ ?_
 refine zb (zH (zn (xb ?_)))
 refine AW.g ?_
 refine G.nilRow 75 6 ?_
 refine AW.u ?_
 refine zh [(1,_),(8,_),(9,_)] (fun nn E H=> ∃(k:Nat) (V:Value),(k≤os.length)∧(V.oneCell'=true)∧nn=os.length-k∧E= [(5,.val V),(10,.val (.int .i64 (k:Int)))]∧H= [.row V 75 6 (f0w K os k).length (i0e (f0w K os k)),e]) _ (⟨0,.slice none 0 0,by omega,rfl,rfl,rfl,rfl⟩) ?_
 rintro nn E H ⟨k,V,hk1,hV,rfl,rfl,rfl⟩
 dsimp only[cA,cN]
 refine zC (zq ?_)
 refine zR (zH (zn (zC ?_)))
 refine ym (fun hlt=> ?_) (fun hlt=> ?_)<;>(try simp only[vU]at hlt)
 ·have hkk:k<os.length:=by omega
  have hle:=k0o K os k
  have hv1:=(hsh.at hkk).1
  have hv2:=(hsh.at hkk).2.1
  have hv3:=(hsh.at hkk).2.2
  have hsc:=g0E (K:=K) hkk
  have hck:=hk (c0r os k)
  refine yU (zn (zC (xb (zC (zq ?_)))))
  refine yf ?_
  refine vO (O.loadRK rfl rfl (by exact p0F (by omega) (by omega)) (by rfl)) ?_
  refine zd ?_
  intro B1
  refine za 0 (zH (zn (zC (zq ?_))))
  refine zb ?_
  refine xW ?_
  refine AO.callMV1 (i:=2) rfl rfl rfl hf hn hb rfl rfl rfl rfl hck (by(dsimp only[List.set,cA,cN,List.take,List.drop];done)) (zH (zn ?_))
  refine ym (fun hK=> ?_) (fun hK=> ?_)<;>(try simp only[vU]at hK)
  ·rw[if_pos hK]at hsc
   refine zC ?_
   refine yo 7 ?_
   simp only[cT,cZ,cD,cO]
   refine yn ?_
   refine yM ?_
   refine vP (xD rfl Tryz.func89 rfl rfl rfl (b0s _ (by assumption))) ?_
   refine yn ?_
   refine vP xV ?_
   refine vP (xD rfl Tryz.func90 rfl rfl rfl (f0S _ _ _ hv2 hv3)) ?_
   refine yn ?_
   refine vf ?_
   simp only[a0g,cN,cA,cP]
   refine za 0 ?_
   refine zt ?_
   refine za 0 (zH (zn (zq ?_)))
   refine zb ?_
   refine xW ?_
   refine zU ?_
   intro B2
   refine AO.g ?_
   refine yr 0 27 ?_
   refine wH 27 ?_
   refine AO.u ?_
   dsimp only[List.eraseIdx]
   refine zB 1 ?_
   intro V3 hV3
   refine zc (zH (xA (zn (zq ?_))))
   refine zx ?_
   refine zb (zH ?_)
   refine zJ _ _ _ (by omega) (⟨k+1,_,by omega,‹_›,rfl,rfl,by rw[hsc,i0d,cH]⟩)
  rw[if_neg (by rw[hK];exact Bool.false_ne_true),cP]at hsc
  refine yU (xA (zn (zq ?_)))
  refine zx ?_
  refine zb (zH ?_)
  refine zJ _ _ _ (by omega) (⟨k+1,V,by omega,hV,rfl,rfl,by rw[hsc]⟩)
 obtain rfl:k=os.length:=by omega
 rw[i0j]
 refine wm ?_
 refine xY ?_
 refine wa ?_
 refine xq (zn (zC (zq ?_)))
 refine zb ?_
 refine zc (zH (zn (y3 ?_)))
 refine vm rfl rfl ⟨_,by repeat(first|exact List.Sublist.slnil|refine List.Sublist.cons_cons _ ?_),List.Perm.refl _⟩ (⟨V,rfl,hV,rfl⟩)
theorem o0Q (x o:Obs)(b:Nat):Sp Tryz.prog 135 [g0l x,.val (.pointer (some ⟨b,0,none⟩))] [.blk b 75 6 (f0O o)] (IsM (.val (.bool (!c0N x o))) (.blk b 75 6 (f0O o))):=by
 refine yH Tryz.func135 _ Tryz.ntmps135 (fun w0 R0=> ?_)
 refine zC (zq ?_)
 refine z9 ?_
 intro B1
 refine zc (zH (zn (zC (zq ?_))))
 refine xW ?_
 refine wC ?_
 refine vO (xD rfl Tryz.func136 rfl rfl rfl (k0l x o)) ?_
 refine xo ?_
 refine zc (zH (zn (y3 ?_)))
 refine AQ.ret1 rfl rfl ⟨_,by repeat(first|exact List.Sublist.slnil|refine List.Sublist.cons_cons _ ?_|refine List.Sublist.cons _ ?_),List.Perm.refl _⟩ (⟨rfl,rfl⟩)
theorem n0c (os:List Obs)(n:Nat):(i0e os).take (n*6)=i0e (os.take n):=f0B d0w os n
theorem t0U {os:List Obs}{k n:Nat}(h:k<n)(hn:n≤os.length){j:Nat}(hj:j=k):((i0e (os.take n)).drop (j*6)).take 6= [.val (.int .i64 (c0r os k).peer),roB (c0r os k).tok,roB (c0r os k).ctx,roB (c0r os k).kid,.val (.int .i64 (c0r os k).piv),.val (.string (c0r os k).path)]:=by
 have e:c0r (os.take n) k=c0r os k:=by simp[List.getElem?_take,h]
 rw[p0F (os:=os.take n) (by rw[List.length_take];omega) hj,e]
theorem OkOb.succ {os:List Obs}{k:Nat}(h:OkOb os k)(h1:e0A (c0r os k)=true)(h2: ∀j,j<k→c0N (c0r os k) (c0r os j)=false):OkOb os (k+1):=fun i hi=>by
 rcases Nat.lt_or_ge i k with h3|h3
 ·exact h i h3
 obtain rfl:i=k:=by omega
 exact⟨h1,h2⟩
theorem n0d (os:List Obs)(hlen:os.length≤1000000):Sp Tryz.prog 132 [j0U os] [] (Is (.val (.bool (c0I os)))):=by
 refine yH Tryz.func132 _ Tryz.ntmps132 (fun w0 R0=> ?_)
 refine zC (zq ?_)
 refine zc (zH (zn (zC (zC (zq ?_)))))
 refine zb ?_
 refine zZ ?_
 refine yN (zH (zn ?_))
 refine ym (fun h=> ?_) (fun h=> ?_)<;>(try simp only[vU]at h)
 ·have e:c0I os=false:=decide_eq_false fun hh=>by have:=hh.1;omega
  refine zC (zq ?_)
  refine zc (zH (zn (y3 (xh ?_))))
  refine vm rfl rfl nS (⟨by rw[e];rfl,rfl⟩)
 refine yU (zn (zC (zC (zq ?_))))
 refine zb ?_
 refine zZ ?_
 refine zb (zH (zn (xb ?_)))
 refine xT [(0,_),(10,_),(11,_)] (fun nn E H=> ∃(k:Nat),(k≤os.length)∧(OkOb os k)∧nn=os.length-k∧E= [(12,.val (.int .i64 (k:Int)))]∧H= []) _ (⟨0,by omega,fun i hi=>by omega,rfl,rfl,rfl⟩) ?_
 rintro nn E H ⟨k,hk,ho,rfl,rfl,rfl⟩
 dsimp only[cA,cN]
 refine zC (zq ?_)
 refine zR (zH (zn (zC ?_)))
 refine ym (fun h2=> ?_) (fun h2=> ?_)<;>(try simp only[vU]at h2)
 ·have hkk:k<os.length:=by omega
  refine yU (zn (zC (xb (zC (zq ?_)))))
  refine zb ?_
  refine yf ?_
  refine vO (O.loadRK rfl rfl (by exact p0F (by omega) (by omega)) (by rfl)) ?_
  refine zd ?_
  intro B1
  refine zc ?_
  refine za 0 (zH (zn (zC (zC (zq ?_)))))
  refine xW ?_
  refine vO (xD rfl Tryz.func133 rfl rfl rfl (j0W (c0r os k))) ?_
  refine xo (zH (zn ?_))
  refine ym (fun h3=> ?_) (fun h3=> ?_)<;>(try simp only[vU]at h3)
  ·have e:c0I os=false:=decide_eq_false fun hh=>by have:=(hh.2 k hkk).1;rw[h3]at this;cases this
   refine zC (zq ?_)
   refine zc (zH (zn (y3 (xh ?_))))
   refine wg (xh ?_)
   refine AQ.loopR ?_
   refine wg (xh ?_)
   refine vm rfl rfl nS (⟨by rw[e];rfl,rfl⟩)
  refine yU (zn (zC (zq ?_)))
  refine zb ?_
  refine zb ?_
  refine vO (O.sliceTo (k:=k) rfl rfl rfl (by rfl) (by omega) (by rfl)) ?_
  refine zZ ?_
  refine zb (zH (zn (xb ?_)))
  refine AW.g ?_
  refine G.re 22 (.ro false k (i0e (os.take k))) (by rw[←n0c];rfl) ?_
  refine AW.u ?_
  refine zh [(0,_),(4,_),(10,_),(11,_),(12,_),(22,_),(23,_)] (fun nn E H=> ∃(j:Nat),(j≤k)∧(∀i,i<j→c0N (c0r os k) (c0r os i)=false)∧nn=k-j∧E= [(24,.val (.int .i64 (j:Int)))]∧H= [.blk B1 75 6 [.val (.int .i64 (c0r os k).peer),roB (c0r os k).tok,roB (c0r os k).ctx,roB (c0r os k).kid,.val (.int .i64 (c0r os k).piv),.val (.string (c0r os k).path)]]) _ (⟨0,by omega,fun i hi=>by omega,rfl,rfl,rfl⟩) ?_
  rintro nn E H ⟨j,hj,hm,rfl,rfl,rfl⟩
  dsimp only[cA,cN]
  refine zC (zq ?_)
  refine zR (zH (zn (zC ?_)))
  refine ym (fun h4=> ?_) (fun h4=> ?_)<;>(try simp only[vU]at h4)
  ·have hjk:j<k:=by omega
   have htl:(os.take k).length=k:=by rw[List.length_take];omega
   refine yU (zn (zC (xb (zC (zq ?_)))))
   refine yf ?_
   refine vO (O.loadRK rfl rfl (by exact t0U (n:=k) (by omega) (by omega) (by omega)) (by rfl)) ?_
   refine zd ?_
   intro B2
   refine za 0 (zH (zn (zC (zq ?_))))
   refine wC ?_
   refine xW ?_
   refine vO (xD rfl Tryz.func136 rfl rfl rfl (k0l (c0r os k) (c0r os j))) (zH (zn ?_))
   refine ym (fun h5=> ?_) (fun h5=> ?_)<;>(try simp only[vU]at h5)
   ·have e:c0I os=false:=decide_eq_false fun hh=>by have:=(hh.2 k hkk).2 j hjk;rw[h5]at this;cases this
    refine zC (zq ?_)
    refine zc (zH (zn (y3 ?_)))
    refine wg (xh ?_)
    refine AQ.loopR ?_
    refine wg ?_
    refine wg (xh ?_)
    refine AQ.loopR ?_
    refine wg (xh ?_)
    refine vm rfl rfl nS (⟨by rw[e];rfl,rfl⟩)
   refine yU (xA (zn (zq ?_)))
   refine zx ?_
   refine zb (zH ?_)
   refine zJ _ _ _ (by omega) (⟨j+1,by omega,fun i hi=>(Nat.lt_or_ge i j).elim (hm i) (fun h9=>by rw[show i=j by omega];exact h5),rfl,rfl,rfl⟩)
  obtain rfl:j=k:=by omega
  refine wm ?_
  refine xY ?_
  refine wa ?_
  refine xq (xA (zn (zq ?_)))
  refine zx ?_
  refine zb (zH ?_)
  refine xP _ _ _ (by omega) (⟨j+1,by omega,ho.succ h3 hm,rfl,rfl,rfl⟩)
 obtain rfl:k=os.length:=by omega
 have e:c0I os=true:=decide_eq_true ⟨by omega,ho⟩
 refine wm ?_
 refine xY ?_
 refine wa ?_
 refine xq (zn (zC (zq ?_)))
 refine zc (zH (zn (y3 ?_)))
 refine vm rfl rfl nS (⟨by rw[e];rfl,rfl⟩)
theorem i0W (os:List Obs)(o:Obs)(hsh:ShortOb os)(ho1:o.tok.length≤4294967296)(ho2:o.ctx.length≤4294967296)(ho3:o.kid.length≤4294967296):Sp Tryz.prog 80 [j0U os,g0l o] [] (Is (t0t (q0m os o))):=by
 have hlen:=hsh.1
 have hfl:=List.length_filter_le (fun x=> !c0N x o) os
 refine yH Tryz.func80 _ Tryz.ntmps80 (fun w0 R0=> ?_)
 refine zC (zq ?_)
 refine z9 ?_
 intro B1
 refine zc ?_
 refine zc (zH (zn (zC (zC (zq ?_)))))
 refine zb ?_
 refine vO (xD rfl Tryz.func132 rfl rfl rfl (n0d os hlen)) ?_
 refine xo ?_
 refine zb ?_
 refine AO.opG rfl rfl rfl (fun hp=>xV) ?_
 refine AO.opG rfl rfl rfl (fun hp=>wP 11 rfl (by exact hp) (xD rfl Tryz.func133 rfl rfl rfl (j0W o))) ?_
 refine xf 12 ?_
 refine zG (zH (zn ?_))
 refine ym (fun h=> ?_) (fun h=> ?_)<;>(try simp only[vU]at h)
 ·have e:q0m os o=([],1):=if_neg (by rintro⟨k1,k2⟩;rw[k1,k2]at h;simp at h)
  refine zC (zq ?_)
  refine zc ?_
  refine zc (zH (zn (y3 (xh ?_))))
  refine x9 yP yu (r0z e)
 have hc:c0I os=true∧e0A o=true:=by simpa using h
 refine yU (zn (zC (zq ?_)))
 refine zb ?_
 refine vO (O.fn rfl rfl) ?_
 refine AO.callMG 0 rfl rfl Tryz.func134 rfl rfl rfl rfl rfl rfl (i0l os hsh (fun x=> !c0N x o) 135 _ _ Tryz.func135 rfl rfl (.blk B1 75 6 (f0O o)) (fun x=>o0Q x o B1)) ?_
 rintro _ _ ⟨V2,rfl,hV2,rfl⟩
 dsimp only[cA,cN,List.eraseIdx]
 refine zc (zH (zn (zC (zC (zq ?_)))))
 refine zb ?_
 refine wj ?_
 refine xR (zH (zn ?_))
 refine ym (fun h2=> ?_) (fun h2=> ?_)<;>(try simp only[vU]at h2)
 ·have e:q0m os o=([],16):=by rw[q0m,if_pos hc,if_pos (by omega)]
  refine zC (zq ?_)
  refine zc ?_
  refine zc (zH (zn (y3 (xh ?_))))
  refine x9 yP yu (r0z e)
 have e:q0m os o=((os.filter fun x=> !c0N x o)++[o],0):=by rw[q0m,if_pos hc,if_neg (by omega)]
 refine yU (zn (zC ?_))
 refine yo 7 ?_
 simp only[cT,cZ,cD,cO]
 refine yn ?_
 refine zO ?_
 refine vP (xD rfl Tryz.func89 rfl rfl rfl (b0s _ (by assumption))) ?_
 refine yn ?_
 refine vP x0 ?_
 refine vP (xD rfl Tryz.func90 rfl rfl rfl (f0S _ _ _ ho2 ho3)) ?_
 refine yn ?_
 refine vf ?_
 simp only[a0g,cN,cA,cP]
 refine za 1 ?_
 refine zt ?_
 refine za 1 (zH (zn (zC (zq ?_))))
 refine zb ?_
 refine wC ?_
 refine zU ?_
 intro B3
 refine AO.g ?_
 refine yr 0 31 ?_
 refine wH 31 ?_
 refine AO.u ?_
 dsimp only[List.eraseIdx]
 refine zB 0 ?_
 intro V4 hV4
 refine zc ?_
 refine zc (zH (zn (y3 ?_)))
 refine AQ.g ?_
 refine yj 0 [4] ?_
 refine AQ.u ?_
 try dsimp only[List.map,List.eraseIdx,cA,cN]
 refine AQ.g ?_
 refine G.re 4 (j0U ((os.filter fun x=> !c0N x o)++[o])) (congrArg some (r0v (by rw[cH];rfl) (by rw[p0k];rfl))) ?_
 refine AQ.u ?_
 refine x9 yP yQ (r0z e)
def AllS (bs:List (List UInt8))(k:Nat):Prop:= ∀i,i<k→(bs.getD i []).length≤900
instance (bs:List (List UInt8))(k:Nat):Decidable (AllS bs k):=by unfold AllS;infer_instance
theorem AllS.succ {bs:List (List UInt8)}{k:Nat}(h:AllS bs k)(h2:(bs.getD k []).length≤900):AllS bs (k+1):=by
 intro i hi
 by_cases e:i=k
 ·subst e;exact h2
 exact h i (by omega)
def x0e (bs:List (List UInt8)):Bool:=decide (AllS bs bs.length∧bs.length≤20)
def q0k (o:Obs):Bool:=x0e [o.tok,o.kid,o.ctx]&&decide (o.path.size≤300)
def LightK (os:List Obs)(k:Nat):Prop:= ∀i,i<k→q0k (c0r os i)=true
instance (os:List Obs)(k:Nat):Decidable (LightK os k):=by unfold LightK;infer_instance
theorem LightK.succ {os:List Obs}{k:Nat}(h:LightK os k)(h2:q0k (c0r os k)=true):LightK os (k+1):=by
 intro i hi
 by_cases e:i=k
 ·subst e;exact h2
 exact h i (by omega)
end Go.Proofs.YtojomcdjcpmnkaaGreat.By
namespace Go.Proofs.YtojomcdjcpmnkaaGreat.By
open Go.RowKit L A Dk
attribute [local irreducible] AW AQ AO
def Gen (b:Nat)(l:List Int)(Φ:AV→Prop):AV→List HE→Prop:=fun r H'=>Φ r∧ ∃k,k≤l.length∧H'= [i0t b l k]
def v0B (n:Int)(r:AV):Prop:= ∃z:Int,0≤z∧z<n∧r= .val (.int .i64 z)
def j0C (n:Nat)(r:AV):Prop:= ∃x:List UInt8,x.length≤n∧r=roB x
def s0N (Φ:AV→Prop):AV→List HE→Prop:=fun r H'=>Φ r∧H'= []
theorem a0S (b:Nat)(l:List Int)(k:Nat)(n:Int)(hl:l.length≤maxLen)(hk:k≤l.length)(hn1:0<n)(hn2:n≤4611686018427387904):
  Sp Tryz.prog 33 [ptr b,.val (.int .i64 n)] [i0t b l k] (Gen b l (v0B n)):=
 (s0e b l k n hl hk hn1 hn2).mono fun r H' ⟨h1,h2⟩=>⟨⟨_,(q0w l k hn1).1,(q0w l k hn1).2,h1⟩,_,s0J hk,h2⟩
theorem d0T (b:Nat)(l:List Int)(k:Nat)(n:Nat)(hl:l.length≤maxLen)(hk:k≤l.length)(hn:n≤1000000):
  Sp Tryz.prog 24 [ptr b,.val (.int .i64 (n:Int))] [i0t b l k] (Gen b l (j0C n)):=by
 refine yH Tryz.func24 _ Tryz.ntmps24 (fun w0 R0=> ?_)
 refine zC (zq ?_)
 refine zc (zH (zn (zC (zq ?_))))
 refine zc (zH (zn (zC (zC (zq ?_)))))
 refine zb ?_
 refine zb ?_
 refine zx ?_
 refine AO.callMG 0 rfl rfl Tryz.func33 rfl rfl rfl rfl rfl rfl (a0S _ l _ _ hl (by assumption) (by omega) (by omega)) ?_
 rintro _ _ ⟨⟨z,hz0,hz1,rfl⟩,kd,hkd,rfl⟩
 dsimp only[cA,cN,List.eraseIdx]
 refine zc (zH (zn (xb ?_)))
 obtain⟨c,rfl⟩: ∃c:Nat,z=(c:Int):=⟨z.toNat,by omega⟩
 refine AW.g ?_
 refine G.nilRow 5 1 ?_
 refine AW.u ?_
 refine AW.loopK [(0,_)] (fun nn E H=> ∃(c':Nat) (out:List UInt8) (V:Value) (kk:Nat),(out.length+c'≤n)∧(V.oneCell'=true)∧(kk≤l.length)∧c'=nn∧E= [(5,.val V),(6,.val (.int .i64 (c':Int)))]∧H= [.row V 5 1 out.length (a0a out),i0t b l kk]) _ (⟨c,[],.slice none 0 0,kd,by simp<;>omega,rfl,hkd,rfl,rfl,rfl⟩) (by repeat(first|exact a0m|refine a0k rfl ?_)) (by repeat(first|exact a0m|refine a0k rfl ?_)) (by repeat(first|exact a0B|refine a0x 0 rfl ?_)) ?_
 rintro nn E H ⟨c',out,V,kk,h1,hV,h3,rfl,rfl,rfl⟩
 dsimp only[cA,cN]
 refine zC (zC (zq ?_))
 refine zb ?_
 refine yN (zH (zn ?_))
 refine ym (fun h=> ?_) (fun h=> ?_)<;>(try simp only[vU]at h)
 ·obtain⟨j,rfl⟩: ∃j,c'=j+1:=⟨c'-1,by omega⟩
  refine yU (zn (zC (xb (zq ?_))))
  refine zb ?_
  refine zb ?_
  refine AO.callMG 1 rfl rfl Tryz.func33 rfl rfl rfl rfl rfl rfl (a0S _ l _ _ hl (by assumption) (by omega) (by omega)) ?_
  rintro _ _ ⟨⟨z,hz0,hz1,rfl⟩,kd,hkd,rfl⟩
  dsimp only[cA,cN,List.eraseIdx]
  refine y4 ?_
  refine zU ?_
  intro B
  refine AO.g ?_
  refine yr 0 19 ?_
  refine wH 19 ?_
  refine AO.u ?_
  dsimp only[List.eraseIdx]
  refine zB 1 ?_
  intro V hV
  refine zc (zH (xA (zn (zq ?_))))
  refine zb ?_
  refine yG ?_
  refine zc (zH ?_)
  rw[show((j+1:Nat):Int)-1=(j:Int) by omega]
  refine AQ.loopKN _ _ _ (by omega) (⟨j,out++[u8 z],V,kd,by simp;omega,hV,hkd,rfl,rfl,by rw[a0O,cH]<;>rfl⟩) (by repeat(first|exact a0m|refine a0k rfl ?_)) (by repeat(first|exact a0m|refine a0k rfl ?_)) (by repeat(first|exact a0B|refine a0x 0 rfl ?_|refine a0x 1 rfl ?_))
 refine wm ?_
 refine xY ?_
 refine wa ?_
 refine xq (zn (zC (zq ?_)))
 refine zb ?_
 refine zc (zH (zn (y3 ?_)))
 refine AQ.g ?_
 refine yL 0 [4] ?_
 refine AQ.u ?_
 dsimp only[List.map,List.eraseIdx,cA,cN]
 refine vm rfl rfl ⟨_,by repeat(first|exact List.Sublist.slnil|refine List.Sublist.cons_cons _ ?_),List.Perm.refl _⟩ (⟨⟨out,by omega,b0r rfl rfl⟩,_,h3,rfl⟩)
theorem l0Z (b:List UInt8)(at' by':Int)(hb:b.length≤4294967296)(hw: -9223372036854775808≤by'∧by'≤9223372036854775807):
  Sp Tryz.prog 39 [roB b,.val (.int .i64 at'),.val (.int .i64 by')] [] (s0N (j0C (b.length+1))):=by
 refine yH Tryz.func39 _ Tryz.ntmps39 (fun w0 R0=> ?_)
 refine zC (zq ?_)
 refine zc (zH (zn (zC (zq ?_))))
 refine zb ?_
 refine yA ?_
 intro V hV
 refine zc (zH (zn (zC (zC (zq ?_)))))
 refine zb ?_
 refine wj ?_
 refine yi (zH (zn ?_))
 refine ym (fun h=> ?_) (fun h=> ?_)<;>(try simp only[vU]at h)
 ·refine zC (zq ?_)
  refine zb ?_
  refine y4 ?_
  refine zU ?_
  intro B
  refine zc (zH (zn (y3 (xh ?_))))
  refine AQ.g ?_
  refine yr 0 6 ?_
  refine AQ.u ?_
  refine AQ.g ?_
  refine wH 6 ?_
  refine AQ.u ?_
  refine vm rfl rfl nS (⟨⟨[u8 by'],by simp,rfl⟩,rfl⟩)
 have hlen:0<b.length:=by omega
 have q1:=Int.emod_nonneg at' (show(b.length:Int)≠0 by omega)
 have q2:=Int.emod_lt_of_pos at' (show(0:Int)<b.length by omega)
 have q3:by'.tdiv 256=by'.tdiv 256:=rfl
 refine yU (zn (zC (zq ?_)))
 refine zb ?_
 refine zb ?_
 refine wj ?_
 refine vO (xD rfl Tryz.func82 rfl rfl rfl (Dk.mod_fn _ _ (by omega) (by omega))) ?_
 refine zc (zH (zn (zC (zC (zq ?_)))))
 refine zb ?_
 refine vO (O.quo rfl rfl rfl (by omega) (by rfl)) ?_
 refine vO (xD rfl Tryz.func82 rfl rfl rfl (Dk.mod_fn _ _ (by omega) (by omega))) (zH (zn (xb (zC (zq ?_)))))
 refine yi ?_
 refine zc (zH (zn ?_))
 obtain⟨k,hk⟩: ∃k:Nat,at'% (b.length:Int)=(k:Int):=⟨(at'% (b.length:Int)).toNat,by omega⟩
 rw[hk]at q1 q2⊢
 refine AW.g ?_
 refine G.openRow 0 rfl (by omega) (fun b' cap hc1 hc2 hxs hVe=> ?_)
 refine AW.u ?_
 subst hVe
 have hc3:=hc2
 unfold maxLen at hc3
 refine ym (fun h1=> ?_) (fun h1=> ?_)<;>(try simp only[vU]at h1)
 ·refine zq ?_
  refine zb ?_
  refine zb ?_
  refine zb ?_
  refine y4 ?_
  refine vt ?_
  refine AO.store (i:=0) rfl rfl rfl rfl rfl rfl (by rfl) (by rfl) (by exact Nat.ble_eq_true_of_le (by simp;omega)) (by rfl) (by(dsimp only[List.set,List.append,cA,cN,AV.cells,a0e,List.take,List.drop,Nat.reduceAdd];done)) (zH (xA (zn (zC (zq ?_)))))
  refine zb ?_
  refine zc (zH (zn (y3 ?_)))
  refine AQ.g ?_
  refine G.closeRow (b:=b') 0 rfl (by simp) rfl hc1 hc2 ?_
  refine AQ.u ?_
  refine AQ.g ?_
  refine yL 0 [6] ?_
  refine AQ.u ?_
  dsimp only[List.map,List.eraseIdx,cA,cN]
  refine vm rfl rfl nS (⟨⟨b.set k (u8 by'),by simp,b0r (by simp) (by simp[a0a,List.map_set])⟩,rfl⟩)
 refine zC (zq ?_)
 refine yi ?_
 refine zc (zH (zn ?_))
 refine ym (fun h2=> ?_) (fun h2=> ?_)<;>(try simp only[vU]at h2)
 ·rcases Nat.lt_or_ge (k+1) b.length with h3|h3
  ·refine zC ?_
   refine yo 7 ?_
   simp only[cT,cZ,cD,cO]
   refine zE ?_
   refine zE ?_
   refine vP wD ?_
   refine zE ?_
   refine zE ?_
   refine xa ?_
   refine vP wD ?_
   refine vf ?_
   simp only[a0g,cN,cA,cP]
   refine AO.appendCut (i:=0) rfl rfl rfl rfl (by rfl) (by rfl) rfl rfl rfl (by omega) (by exact SrcA.blk TyD.ax (by repeat(exact List.Mem.head _)) (by(dsimp only[List.set,List.append,cA,cN,AV.cells,a0e,List.take,List.drop,Nat.reduceAdd];done)) (by(simp;done))) (by(simp[AV.cells,AV.one, *];done)) (by(unfold maxLen;omega)) (by omega) ⟨by omega,by assumption⟩ (by(dsimp only[List.set,List.append,cA,cN,AV.cells,a0e,List.take,List.drop,Nat.reduceAdd];done)) (fun _=>by(dsimp only[List.set];done)) ?_
   intro V hV
   refine zc (zH (zn (y3 ?_)))
   refine wg (xh ?_)
   refine AQ.g ?_
   refine yL 0 [6] ?_
   refine AQ.u ?_
   dsimp only[List.map,List.eraseIdx,cA,cN]
   refine AQ.ret1 rfl rfl nS (⟨⟨b.take k++b.drop (k+1),by simp<;>omega,b0r (by simp<;>omega) (by simp;rw[List.take_of_length_le (by simp)])⟩,rfl⟩)
  refine zC ?_
  refine yo 7 ?_
  simp only[cT,cZ,cD,cO]
  refine zE ?_
  refine zE ?_
  refine vP wD ?_
  refine zE ?_
  refine zE ?_
  refine xa ?_
  refine vP (O.sliceV0 rfl rfl rfl rfl ⟨by omega,by omega,by omega⟩ (by omega) (by assumption)) ?_
  refine vf ?_
  simp only[a0g,cN,cA,cP]
  refine AO.appendCut (i:=0) rfl rfl rfl rfl (by rfl) (by rfl) rfl rfl rfl (by omega) (by exact SrcA.ro TyD.ax (by rfl) (lB rfl)) (by rfl) (by(unfold maxLen;omega)) (by omega) ⟨by omega,by assumption⟩ (by(dsimp only[List.set,List.append,cA,cN,AV.cells,a0e,List.take,List.drop,Nat.reduceAdd];done)) (fun _=>by(dsimp only[List.set];done)) ?_
  intro V hV
  refine zc (zH (zn (y3 ?_)))
  refine wg (xh ?_)
  refine AQ.g ?_
  refine yL 0 [6] ?_
  refine AQ.u ?_
  dsimp only[List.map,List.eraseIdx,cA,cN]
  refine AQ.ret1 rfl rfl nS (⟨⟨b.take k,by simp<;>omega,b0r (by simp<;>omega) (by simp)⟩,rfl⟩)
 refine AW.g ?_
 refine G.closeRow (b:=b') 0 rfl (by simp) rfl hc1 hc2 ?_
 refine AW.u ?_
 refine AW.g ?_
 refine yj 0 [7] ?_
 refine AW.u ?_
 try dsimp only[List.map,List.eraseIdx,cA,cN]
 refine zC (zq ?_)
 refine yi ?_
 refine zc (zH (zn ?_))
 refine ym (fun h4=> ?_) (fun h4=> ?_)<;>(try simp only[vU]at h4)
 ·refine zC ?_
  refine AW.regionM [(0,false),(1,false),(2,false),(4,false),(5,false),(6,false),(8,false),(9,false),(10,false),(3,true),(7,true),(11,true),(12,false)] (by kernel_rfl) (by kernel_rfl) (by exact a0c) ?_
  dsimp only[List.eraseIdx]
  refine y0 ?_
  refine y0 ?_
  refine vQ rfl (O.sliceToB rfl rfl rfl (by rfl) (by omega)) ?_
  refine y0 ?_
  refine vQ rfl (O.conv rfl rfl d0A) ?_
  refine xp ?_
  refine y0 ?_
  refine y0 ?_
  refine vQ rfl (O.sliceFromB rfl rfl rfl (by rfl) (by omega)) ?_
  refine xU _ (fun w0 R0=> ?_)
  refine yT ?_
  intro V hV
  refine AM.ok ?_
  dsimp only[a0w]
  refine xU _ (fun w0 R0=> ?_)
  refine AO.append' (i:=0) rfl rfl rfl rfl (by rfl) (by rfl) rfl rfl rfl (by exact SrcA.ro TyD.ax (by rfl) (lB rfl)) (by rfl) (by(unfold maxLen;simp only[List.length_take,List.length_drop,cH,cL,cE,List.length_set,Nat.zero_add];omega)) (by(simp only[List.length_take,List.length_drop,cH,cL,cE,List.length_set,Nat.zero_add];omega)) (by(dsimp only[List.set,List.append,cA,cN,AV.cells,a0e,List.take,List.drop,Nat.reduceAdd];done)) (fun _=>by(dsimp only[List.set];done)) ?_
  intro V hV
  refine AM.ok ?_
  dsimp only[a0w]
  refine xU _ (fun w0 R0=> ?_)
  refine AO.append' (i:=0) rfl rfl rfl rfl (by rfl) (by rfl) rfl rfl rfl (by exact SrcA.ro TyD.ax (by(simp;done)) (lB rfl)) (by(simp[AV.cells,AV.one, *];done)) (by(unfold maxLen;simp only[List.length_take,List.length_drop,cH,cL,cE,List.length_set,Nat.zero_add];omega)) (by(simp only[List.length_take,List.length_drop,cH,cL,cE,List.length_set,Nat.zero_add];omega)) (by(dsimp only[List.set,List.append,cA,cN,AV.cells,a0e,List.take,List.drop,Nat.reduceAdd];done)) (fun _=>by(dsimp only[List.set];done)) ?_
  intro V hV
  refine AM.ok ?_
  dsimp only[a0w]
  refine we ?_
  refine vn ?_
  dsimp only[cA,cN]
  refine zn (y3 ?_)
  refine wg (xh ?_)
  refine AQ.g ?_
  refine yj 0 [6] ?_
  refine AQ.u ?_
  try dsimp only[List.map,List.eraseIdx,cA,cN]
  refine AQ.ret1 rfl rfl nS (⟨⟨b.take k++[u8 by']++b.drop k,by simp<;>omega,b0r (by simp<;>omega) (by simp<;>rfl)⟩,rfl⟩)
 refine zC (zq ?_)
 refine zb ?_
 refine zb ?_
 refine vO (O.sliceToB rfl rfl rfl (by rfl) (by omega)) ?_
 refine zc (zH (zn (y3 ?_)))
 refine wg (xh ?_)
 refine AQ.g ?_
 refine wH 6 ?_
 refine AQ.u ?_
 try dsimp only[List.map,List.eraseIdx,cA,cN]
 refine AQ.ret1 rfl rfl nS (⟨⟨b.take k,by simp<;>omega,b0r (by simp<;>omega) (by simp)⟩,rfl⟩)
abbrev u0L:AV:= .tup [.agg [roB [1],roB [],roB [],.val (.int .i64 0),.val (.int .i64 (-1)),.val (.bool true)],.val (.int .i64 0)]
theorem w0n {q:AV}(hq:q=u0L):Is u0L q []:=⟨hq,rfl⟩
theorem l0L:Sp Tryz.prog 43 [roB [1],.agg [roB [],roB [],.val (.int .i64 0)]] [] (Is u0L):=by
 refine yH Tryz.func43 _ Tryz.ntmps43 (fun w0 R0=> ?_)
 refine zC (zq ?_)
 refine z9 ?_
 intro B1
 refine zd ?_
 intro B2
 refine zc (zH (zn (zC (zC (zq ?_)))))
 refine zb ?_
 refine zZ ?_
 refine yN (zH (zn ?_))
 refine AW.condF rfl (yU (zn (zC ?_)))
 refine yo 5 ?_
 simp only[cT,cZ,cD,cO]
 refine zE ?_
 refine vP (xD rfl Tryz.func89 rfl rfl rfl (b0s [1] (by decide))) ?_
 refine vP x0 ?_
 refine vP (xD rfl Tryz.func90 rfl rfl rfl (f0S [] [] 0 (by decide) (by decide))) ?_
 refine xN ?_
 refine vf ?_
 simp only[a0g,cN,cA,cP]
 refine za 0 ?_
 refine zc (zH (zn (y3 ?_)))
 refine x9 zP yQ (w0n rfl)
def oA:Obs:=⟨1,[],[],[],0,⟨#[47,97]⟩⟩
theorem w0q:q0m [] oA=([oA],0):=by
 have h:c0I []=true∧e0A oA=true:=by decide
 rw[q0m,if_pos h,if_neg (by decide)];rfl
theorem w0i:u0Q [oA] ⟨#[47,97]⟩= [oA]:=by
 simp[u0Q,eqS,oA]
theorem t0v:Sp Tryz.prog 80 [j0U [],g0l oA] [] (Is (.tup [j0U [oA],.val (.int .i64 0)])):=by
 have:=i0W [] oA ⟨by simp,by simp⟩ (by decide) (by decide) (by decide)
 rwa [w0q]at this
theorem shA:ShortOb [oA]:=by
 refine⟨by simp,fun o ho=> ?_⟩
 have e:o=oA:=by simpa using ho
 subst e
 decide
theorem t0h:Sp Tryz.prog 81 [j0U [oA],.val (.string ⟨#[47,97]⟩)] [] (Is (j0U [oA])):=by
 have:=k0L [oA] ⟨#[47,97]⟩ shA
 rwa [w0i]at this
theorem g0O:Sp Tryz.prog 32 [] [] (Is (.val (.bool true))):=by
 refine yH Tryz.func32 _ Tryz.ntmps32 (fun w0 R0=> ?_)
 refine zC (zq ?_)
 refine zc (zH (zn (zC (zq ?_))))
 refine zM ?_
 refine vO (vw rfl Tryz.func80 rfl rfl rfl t0v) ?_
 refine zb ?_
 refine zW ?_
 refine zW ?_
 refine zc ?_
 refine zc (zH (zn (zC (zq ?_))))
 refine zU ?_
 intro B1
 refine AO.g ?_
 refine yr 0 11 ?_
 refine wH 11 ?_
 refine AO.u ?_
 dsimp only[List.eraseIdx]
 refine zM ?_
 refine vO (vw rfl Tryz.func43 rfl rfl rfl l0L) ?_
 refine zb ?_
 refine zW ?_
 refine zW ?_
 refine z7 ?_
 intro B2
 refine zm 0 ?_
 refine zc (zH (zn (zC (zq ?_))))
 refine zb ?_
 refine vO (O.eql rfl rfl rfl (by exact beq_iff_eq.2 (by omega))) ?_
 refine zb ?_
 refine yl ?_
 refine AO.opG rfl rfl rfl (fun hp=>wP 19 rfl (by exact hp) (O.eql rfl rfl rfl (by exact beq_iff_eq.2 (by omega)))) ?_
 refine zN ?_
 refine zb ?_
 refine yl ?_
 refine AO.opG rfl rfl rfl (fun hp=>wP 23 rfl (by exact hp) (xD rfl Tryz.func81 rfl rfl rfl t0h)) ?_
 refine yg 24 ?_
 refine AO.opG rfl rfl rfl (fun hp=>wP 25 rfl (by exact hp) (O.eql rfl rfl rfl (by assumption))) ?_
 refine zN ?_
 refine zb ?_
 refine zK ?_
 refine zu 29 ?_
 refine zN ?_
 refine zb ?_
 refine zK ?_
 refine zu 33 ?_
 refine AO.opG rfl rfl rfl (fun hp=>wP 34 rfl (by exact hp) (O.eql rfl rfl rfl (by exact beq_iff_eq.2 (by omega)))) ?_
 refine zN ?_
 refine zc (zH (zn (y3 ?_)))
 refine yw
end Go.Proofs.YtojomcdjcpmnkaaGreat.By
namespace Go.Proofs.YtojomcdjcpmnkaaGreat.By
open Go.RowKit L A
inductive It where
 |mk (k n:Int) (b:List UInt8) (l:List It)
abbrev hnI (k n:Int)(b:List UInt8)(m:Nat):Int:=if k=2∨k=3 then(b.length:Int)else if k=4 then(m:Int)else n
mutual
def It.cells:It→List AV
 | .mk k n b l=> [.val (.int .i64 k),.val (.int .u64 n),roB b,.ro false l.length (d0O l)]
def d0O:List It→List AV
 | []=> []
 |x::l=>x.cells++d0O l
end
mutual
def It.nodes:It→Nat
 | .mk _ _ _ l=>1+q0y l
def q0y:List It→Nat
 | []=>0
 |x::l=>x.nodes+q0y l
end
mutual
def It.enc:It→List UInt8
 | .mk k n b l=>u8 (32*k+hnI k n b l.length)::(b++b0Y l)
def b0Y:List It→List UInt8
 | []=> []
 |x::l=>x.enc++b0Y l
end
theorem h0n (l:List It):d0O l=l.flatMap It.cells:=by
 induction l with
 |nil=>rw[d0O];rfl
 |cons x l ih=>rw[d0O,ih,List.flatMap_cons]
theorem i0B (x:It):x.cells.length=4:=by cases x;rw[It.cells];rfl
theorem g0J (l:List It)(x:It):b0Y (l++[x])=b0Y l++x.enc:=by
 induction l with
 |nil=>simp[b0Y]
 |cons y l ih=>simp[b0Y,ih]
theorem f0K (l m:List It):b0Y (l++m)=b0Y l++b0Y m:=by
 induction l with
 |nil=>simp[b0Y]
 |cons y l ih=>simp[b0Y,ih]
def itN:It:= .mk 0 0 [] []
abbrev o0k (l:List It)(k:Nat):It:=l.getD k itN
theorem t0V {l:List It}{k:Nat}(h:k<l.length){j:Nat}(hj:j=k):((d0O l).drop (j*4)).take 4=(o0k l k).cells:=by
 rw[h0n];exact e0m i0B itN h hj
theorem p0v (l:List It):(d0O l).length=l.length*4:=by rw[h0n];exact e0Y i0B l
theorem d0e {k n:Int}{b:List UInt8}:(It.mk k n b []).enc=u8 (32*k+hnI k n b 0)::b:=by
 rw[It.enc,b0Y,cP];rfl
theorem j0k {n:Int}{l:List It}:(It.mk 4 n [] l).enc=u8 (32*4+(l.length:Int))::b0Y l:=by
 rw[It.enc];rfl
end Go.Proofs.YtojomcdjcpmnkaaGreat.By
namespace Go.Proofs.YtojomcdjcpmnkaaGreat.A
open Go.RowKit L
section
variable {P:Program}{ops:Array Oper}{N:Nat}
def s0I (als:List Al)(i:Nat):Option Al:=als.find? fun al=>Nat.beq al.i i
def n0o (als:List Al)(i:Nat):Bool:=(s0I als i).isSome
theorem h0v {als:List Al}(hn:(als.map Al.i).Nodup){al:Al}(h:al∈als):s0I als al.i=some al:=by
 induction als with
 |nil=>cases h
 | cons a r ih=>
  rw[List.map_cons,List.nodup_cons]at hn
  unfold s0I
  rw[List.find?_cons]
  rcases List.mem_cons.1 h with rfl|h
  ·simp
  ·have hne:Nat.beq a.i al.i=false:=by
    cases hb:Nat.beq a.i al.i with
    |false=>rfl
    |true=>exact absurd (List.mem_map.2 ⟨al,h,(Nat.eq_of_beq_eq_true hb).symm⟩) hn.1
   rw[hne];exact ih hn.2 h
def upd (ea:Nat→Option Nat)(i:Nat)(v:Option Nat):Nat→Option Nat:=fun k=>if k=i then v else ea k
theorem d0D (ea:Nat→Option Nat)(i:Nat)(v:Option Nat):upd ea i v i=v:=if_pos rfl
theorem b0R (ea:Nat→Option Nat){i k:Nat}(v:Option Nat)(h:k≠i):upd ea i v k=ea k:=if_neg h
def d0n (als:List Al)(ea:Nat→Option Nat):List HE:=als.flatMap fun al=>al.hs (ea al.i)
theorem j0l {als:List Al}{ea ea':Nat→Option Nat}(h: ∀al∈als,ea al.i=ea' al.i):d0n als ea=d0n als ea':=by
 induction als with
 |nil=>rfl
 |cons a r ih=>
  unfold d0n at ih⊢
  rw[List.flatMap_cons,List.flatMap_cons,h a (List.mem_cons_self ..),ih fun al hal=>h al (List.mem_cons_of_mem _ hal)]
theorem n0D {als:List Al}(hn:(als.map Al.i).Nodup){al:Al}(hm:al∈als){ea:Nat→Option Nat}(b:Nat)(h:ea al.i=none):(d0n als (upd ea al.i (some b))).Perm (al.he b::d0n als ea):=by
 induction als with
 |nil=>cases hm
 | cons a r ih=>
  rw[List.map_cons,List.nodup_cons]at hn
  rcases List.mem_cons.1 hm with rfl|hm
  ·have e:d0n r (upd ea al.i (some b))=d0n r ea:=j0l fun x hx=>b0R _ _ fun e=>hn.1 (List.mem_map.2 ⟨x,hx,e⟩)
   show(al.hs (upd ea al.i (some b) al.i)++d0n r (upd ea al.i (some b))).Perm (al.he b::(al.hs (ea al.i)++d0n r ea))
   rw[d0D,h,e];exact .refl _
  ·have hne:a.i≠al.i:=fun e=>hn.1 (List.mem_map.2 ⟨al,hm,e.symm⟩)
   show(a.hs (upd ea al.i (some b) a.i)++d0n r (upd ea al.i (some b))).Perm (al.he b::(a.hs (ea a.i)++d0n r ea))
   rw[b0R _ _ hne]
   exact((ih hn.2 hm).append_left _).trans List.perm_middle
theorem j0m {als:List Al}(hn:(als.map Al.i).Nodup){al:Al}(hm:al∈als){ea:Nat→Option Nat}{b:Nat}(h:ea al.i=some b):(d0n als ea).Perm (al.he b::d0n als (upd ea al.i none)):=by
 have e:ea=upd (upd ea al.i none) al.i (some b):=by
  funext k
  by_cases hk:k=al.i
  ·subst hk;rw[d0D];exact h
  ·rw[b0R _ _ hk,b0R _ _ hk]
 have:=n0D hn hm (ea:=upd ea al.i none) b (d0D _ _ _)
 rwa [←e]at this
def AB (P:Program)(N:Nat)(ops:Array Oper)(als:List Al)(Hs:List HE)(K:Env→List HE→Prop):List (Nat×Bool)→Env→List HE→Prop
 | [],E,H=>K E H
 |(i,true)::r,E,H=>match s0I als i with
  |some al=> ∀b,AB P N ops als Hs K r ((al.d,.val (.pointer (some ⟨b,0,none⟩)))::E) (al.he b::H)
  |none=> ∃o,ops[i]? =some o∧ ∀w0 R0,AO ⟨w0,a0z H,R0,N⟩ P ops (QS ⟨w0,a0z H,R0,N⟩ o.dst (fun v H'=>AB P N ops als Hs K r (a0w o.dst v E) H')) [o] (rst E (o.looksAt ops)) H
 |(i,false)::r,E,H=> ∃o d v,ops[i]? =some o∧o.dst=some d∧d<N∧OpF P N ops o (rst E (o.looksAt ops)) Hs (Is v)∧AB P N ops als Hs K r ((d,v)::E) H
def d0b (ops:Array Oper)(ia:Nat→Bool)(an:List (List Nat))(i:Nat)(b:Bool)(j:Nat)(c:Bool):Bool:=
 match ops[i]?,ops[j]?with
 | some oi,some oj=>
  let waits:=oj.after.any fun e=>Region.binds .any e&&e.on==i
  let anc:=(an.getD j []).contains i
  (i !=j)&&(!b||anc||ia j)&&
  (match oj.dst with
   |some d=>bif c&& !ia j then(!((oi.looksAt ops).contains d||oi.dst==some d))||anc else !(oi.looksAt ops).contains d&&oi.dst !=some d
   |none=>c&& !ia j)&&
  (match oi.dst with
   |some d=> !(oj.looksAt ops).contains d||waits
   |none=>true)
 |_,_=>false
def b0H (ops:Array Oper)(ia:Nat→Bool)(an:List (List Nat)):List (Nat×Bool)→Bool
 | []=>true
 |(i,b)::r=>(b||(match ops[i]?with|some o=>(match o.dst with|some d=> !(o.looksAt ops).contains d|none=>false)|none=>false))&&r.all (fun q=>d0b ops ia an i b q.1 q.2)&&b0H ops ia an r
theorem a0F {ia:Nat→Bool}{an:List (List Nat)}: ∀{pre r:List (Nat×Bool)},b0H ops ia an (pre++r)=true→b0H ops ia an r=true∧ ∀q∈pre,∀s∈r,d0b ops ia an q.1 q.2 s.1 s.2=true
 | [],r,h=>⟨h,fun q hq=>by cases hq⟩
 |(i,b)::pre,r,h=>by
  rw[cA,b0H]at h
  simp only[Bool.and_eq_true,List.all_eq_true]at h
  obtain⟨h1,h2⟩:=a0F h.2
  refine⟨h1,fun q hq s hs=> ?_⟩
  rcases List.mem_cons.1 hq with rfl|hq
  ·exact h.1.2 s (List.mem_append_right _ hs)
  ·exact h2 q hq s hs
structure PairOkB (ops:Array Oper) (ia:Nat→Bool) (an:List (List Nat)) (i:Nat) (b:Bool) (oi:Oper) (j:Nat) (c:Bool) (oj:Oper):Prop where
 ne:i≠j
 main:b=true→ia j=false→i∈an.getD j []
 flt:c=false∨ia j=true→ ∃d,oj.dst=some d∧d∉oi.looksAt ops∧oi.dst≠some d
 mn:c=true→ia j=false→ ∀d,oj.dst=some d→(d∈oi.looksAt ops∨oi.dst=some d)→i∈an.getD j []
 reads: ∀d,oi.dst=some d→d∈oj.looksAt ops→ ∃e∈oj.after,Region.binds .any e=true∧e.on=i
theorem c0L {ia:Nat→Bool}{an:List (List Nat)}{i j:Nat}{b c:Bool}{oi oj:Oper}(h:d0b ops ia an i b j c=true)(hi:ops[i]? =some oi)(hj:ops[j]? =some oj):PairOkB ops ia an i b oi j c oj:=by
 unfold d0b at h
 rw[hi,hj]at h
 simp only[Bool.and_eq_true,bne_iff_ne,ne_eq]at h
 obtain⟨⟨⟨h1,h2⟩,h3⟩,h4⟩:=h
 refine⟨h1,fun hb hj=> ?_,fun hc=> ?_,fun hc hj d hd hm=> ?_,fun d hd hm=> ?_⟩
 ·subst hb;simpa[hj]using h2
 ·have hcj:(c&& !ia j)=false:=by rcases hc with hc|hc<;>simp[hc]
  cases hd:oj.dst with
  |none=>rw[hd]at h3;simp only[hcj]at h3;cases h3
  |some d=>
   rw[hd]at h3
   simp only[hcj,cond_false]at h3
   simp at h3
   exact⟨d,rfl,h3.1,h3.2⟩
 ·subst hc
  have hcj:(true&& !ia j)=true:=by simp[hj]
  rw[hd]at h3
  simp only[hcj,cond_true]at h3
  simp at h3
  rcases h3 with h3|h3
  ·rcases hm with hm|hm
   ·exact absurd hm h3.1
   ·exact absurd hm h3.2
  ·exact h3
 ·rw[hd]at h4
  simp only[Bool.or_eq_true,Bool.not_eq_true',List.contains_eq_mem,decide_eq_false_iff_not]at h4
  rcases h4 with h4|h4
  ·exact absurd hm h4
  ·obtain⟨x,hx,hx2⟩:=f0U h4
   simp only[Bool.and_eq_true,beq_iff_eq]at hx2
   exact⟨x,hx,hx2.1,hx2.2⟩
structure NB (P:Program) (Γ:Cx) (ops:Array Oper) (als:List Al) (Hs:List HE) (K:Env→List HE→Prop) (ord:List (Nat×Bool)) (listed:Array Bool) (A:Act) (W:World) (pre ms:List (Nat×Bool)) (Pd:List Nat) (ea:Nat→Option Nat) (E:Env) (H:List HE) (R:Nat→Prop):Prop where
 size:listed.size=ops.size
 closed:c0q ops listed
 part: ∀i,i<ops.size→(listed.getD i false=false↔(i∈Pd∨i∈ms.map Prod.fst)∧ea i=none)
 ord:ord=pre++ms
 pdp: ∀i∈Pd,(i,false)∈pre
 am:AB P Γ.N ops als Hs K ms E H
 pend: ∀i∈Pd,∃o d v,ops[i]? =some o∧o.dst=some d∧d<Γ.N∧a0q E d=some v∧OpF P Γ.N ops o (rst E (o.looksAt ops)) Hs (Is v)
 rels:RelS Γ R (H++(d0n als ea++Hs)) W
 eal: ∀i b,ea i=some b→ ∃al∈als,al.i=i∧(i,true)∈ms∧A.eval (.tmp al.d)= .pointer (some ⟨b,0,none⟩)
 defers:A.defers= []
 tmps:A.tmps.size=Γ.N
 act: ∀t v,a0q E t=some v→(∀i∈Pd,∀o,ops[i]? =some o→o.dst≠some t)→(∀al∈als,ea al.i≠none→t≠al.d)→RelV R W v (A.eval (.tmp t))
variable {Γ:Cx}{als:List Al}{Hs:List HE}{K:Env→List HE→Prop}{ord:List (Nat×Bool)}
def alsOk (P:Program)(N:Nat)(ops:Array Oper)(als:List Al):Prop:=(als.map Al.i).Nodup∧ ∀al∈als,al.ok P N ops
theorem NB.absorb {listed:Array Bool}{A:Act}{W:World}{R:Nat→Prop}(hok:b0H ops (n0o als) (c0G ops.toList []) ord=true)(hals:alsOk P Γ.N ops als): ∀(ms pre:List (Nat×Bool)) (Pd:List Nat) (ea:Nat→Option Nat) (E:Env) (H:List HE),NB P Γ ops als Hs K ord listed A W pre ms Pd ea E H R→
  ∃pre' ms' Pd' ea' E' H',NB P Γ ops als Hs K ord listed A W pre' ms' Pd' ea' E' H' R∧(ms'= []∨ ∃m r,ms'=(m,true)::r∧ea' m=none)
 | [],pre,Pd,ea,E,H,h=>⟨pre,[],Pd,ea,E,H,h,.inl rfl⟩
 | (m,true)::r,pre,Pd,ea,E,H,h=>by
  cases hea:ea m with
  |none=>exact⟨pre,_,Pd,ea,E,H,h,.inr ⟨m,r,rfl,hea⟩⟩
  | some b=>
   obtain⟨al,halm,rfl, -,hpt⟩:=h.eal m b hea
   have hfa:s0I als al.i=some al:=h0v hals.1 halm
   have hisal:n0o als al.i=true:=by unfold n0o;rw[hfa];rfl
   obtain⟨oa,ho,hd,hN,hg,hop⟩:=hals.2 al halm
   have ham:=h.am
   rw[AB,hfa]at ham
   have hord:=h.ord
   have hq:=a0F (pre:=pre) (r:=(al.i,true)::r) (by rw[←hord];exact hok)
   have hself: ∀i∈Pd,i≠al.i:=fun i hi e=>by
    have:=c0L (hq.2 _ (h.pdp i hi) (al.i,true) (List.mem_cons_self ..)) (by rw[e];exact ho) ho
    exact this.ne e
   have hp: ∀i∈Pd,∀oi,ops[i]? =some oi→al.d∉oi.looksAt ops∧oi.dst≠some al.d:=fun i hi oi hoi=>by
    have:=c0L (hq.2 _ (h.pdp i hi) (al.i,true) (List.mem_cons_self ..)) hoi ho
    obtain⟨d',h1,h2,h3⟩:=this.flt (.inr hisal)
    rw[hd]at h1
    cases h1
    exact⟨h2,h3⟩
   have hnr:al.i∉r.map Prod.fst:=fun hm=>by
    obtain⟨⟨j,c⟩,hq3,hji⟩:=List.mem_map.1 hm
    have h9:=(a0F (pre:=pre++[(al.i,true)]) (r:=r) (by rw[List.append_assoc,List.singleton_append,←hord];exact hok)).2 (al.i,true) (by simp) _ hq3
    simp only at hji
    subst hji
    exact(c0L h9 ho ho).ne rfl
   refine NB.absorb hok hals r (pre++[(al.i,true)]) Pd (upd ea al.i none) ((al.d,.val (.pointer (some ⟨b,0,none⟩)))::E) (al.he b::H) ⟨h.size,h.closed,fun i hi=> ?_,by rw[hord];simp,fun i hi=>List.mem_append_left _ (h.pdp i hi),ham b,fun i hi=> ?_,?_,fun i b' hb'=> ?_,h.defers,h.tmps,fun t x ht hpd hne=> ?_⟩
   ·rw[h.part i hi]
    simp only[List.map_cons,List.mem_cons]
    by_cases hia:i=al.i
    ·subst hia
     rw[d0D,hea]
     constructor
     ·rintro⟨_,h2⟩;cases h2
     ·rintro⟨h1|h1,_⟩
      ·exact absurd rfl (hself _ h1)
      ·exact absurd h1 hnr
    ·rw[b0R _ _ hia]
     refine and_congr_left fun _=> ?_
     constructor
     ·rintro(h1|h1|h1)
      ·exact .inl h1
      ·exact absurd h1 hia
      ·exact .inr h1
     ·rintro(h1|h1)
      ·exact .inl h1
      ·exact .inr (.inr h1)
   ·obtain⟨oi,di,vi,h1,h2,h3,h4,h5⟩:=h.pend i hi
    obtain⟨h6,h7⟩:=hp i hi oi h1
    refine⟨oi,di,vi,h1,h2,h3,?_,by rw[b0c h6];exact h5⟩
    rw[a0J (fun e=>h7 (by rw[h2,e]))];exact h4
   ·refine h.rels.perm ?_
    have h1:=j0m hals.1 halm hea
    show(al.he b::(H++(d0n als (upd ea al.i none)++Hs))).Perm (H++(d0n als ea++Hs))
    refine(List.perm_middle (a:=al.he b) (l₁:=H)).symm.trans ?_
    exact((h1.symm.append_right Hs).append_left H)
   ·by_cases hia:i=al.i
    ·subst hia;rw[d0D]at hb';cases hb'
    ·rw[b0R _ _ hia]at hb'
     obtain⟨al',h1,h2,h3,h4⟩:=h.eal i b' hb'
     refine⟨al',h1,h2,?_,h4⟩
     rcases List.mem_cons.1 h3 with h3|h3
     ·cases h3;exact absurd rfl hia
     ·exact h3
   ·by_cases hdt:al.d=t
    ·subst hdt
     rw[b0o]at ht
     cases ht
     rw[hpt];exact .val _
    ·rw[a0J hdt]at ht
     refine h.act t x ht hpd fun al' hal' hne' e=> ?_
     by_cases hia:al'.i=al.i
     ·have h1:=h0v hals.1 hal'
      rw[hia,hfa]at h1
      cases h1
      exact hdt e.symm
     ·exact hne al' hal' (by rw[b0R _ _ hia];exact hne') e
 | (j,false)::r,pre,Pd,ea,E,H,h=>by
  obtain⟨o,d,v,ho,hd,hN,hop,ham⟩:=h.am
  have hord:=h.ord
  have hq:=a0F (pre:=pre) (r:=(j,false)::r) (by rw[←hord];exact hok)
  have hself:d∉o.looksAt ops:=by
   have:=hq.1
   rw[b0H]at this
   simp only[Bool.and_eq_true,ho,hd,Bool.false_or]at this
   simpa using this.1.1
  have hp: ∀i∈Pd,∀oi,ops[i]? =some oi→d∉oi.looksAt ops∧oi.dst≠some d:=fun i hi oi hoi=>by
   have:=c0L (hq.2 _ (h.pdp i hi) (j,false) (List.mem_cons_self ..)) hoi ho
   obtain⟨d',h1,h2,h3⟩:=this.flt (.inl rfl)
   rw[hd]at h1
   cases h1
   exact⟨h2,h3⟩
  refine NB.absorb hok hals r (pre++[(j,false)]) (j::Pd) ea ((d,v)::E) H ⟨h.size,h.closed,fun i hi=> ?_,by rw[hord];simp,fun i hi=> ?_,ham,fun i hi=> ?_,h.rels,fun i b hb=> ?_,h.defers,h.tmps,fun t x ht hpd hea=> ?_⟩
  ·rw[h.part i hi]
   simp only[List.map_cons,List.mem_cons]
   refine and_congr_left fun _=> ?_
   constructor
   ·rintro(h|h|h)
    ·exact .inl (.inr h)
    ·exact .inl (.inl h)
    ·exact .inr h
   ·rintro((h|h)|h)
    ·exact .inr (.inl h)
    ·exact .inl h
    ·exact .inr (.inr h)
  ·rcases List.mem_cons.1 hi with rfl|hi
   ·simp
   ·exact List.mem_append_left _ (h.pdp i hi)
  ·rcases List.mem_cons.1 hi with rfl|hi
   ·exact⟨o,d,v,ho,hd,hN,b0o,by rw[b0c hself];exact hop⟩
   ·obtain⟨oi,di,vi,h1,h2,h3,h4,h5⟩:=h.pend i hi
    obtain⟨h6,h7⟩:=hp i hi oi h1
    refine⟨oi,di,vi,h1,h2,h3,?_,by rw[b0c h6];exact h5⟩
    rw[a0J (fun e=>h7 (by rw[h2,e]))];exact h4
  ·obtain⟨al,h0,h9,h1,h2⟩:=h.eal i b hb
   refine⟨al,h0,h9,?_,h2⟩
   rcases List.mem_cons.1 h1 with h1|h1
   ·cases h1
   ·exact h1
  ·have hne:d≠t:=fun e=>hpd j (List.mem_cons_self ..) o ho (by rw[hd,e])
   rw[a0J hne]at ht
   exact h.act t x ht (fun i hi=>hpd i (List.mem_cons_of_mem _ hi)) hea
theorem NB.reads {listed:Array Bool}{A:Act}{W:World}{R:Nat→Prop}{pre ms:List (Nat×Bool)}{Pd:List Nat}{ea:Nat→Option Nat}{E:Env}{H:List HE}(hok:b0H ops (n0o als) (c0G ops.toList []) ord=true)(hals:alsOk P Γ.N ops als)(h:NB P Γ ops als Hs K ord listed A W pre ms Pd ea E H R)
  {i:Nat} {b:Bool} {o:Oper} (ho:ops[i]? =some o) (hdeps: ∀e∈o.after,Region.binds .any e=true→listed.getD e.on false=true) (hi:(i,b)∈pre∧i∈Pd∧b=false∨ ∃r,ms=(i,b)::r∧n0o als i=false):RelA Γ.N R W (rst E (o.looksAt ops)) A:=by
 refine⟨h.defers,h.tmps,fun t v ht=> ?_⟩
 obtain⟨htl,ht⟩:=c0y ht
 have hnal: ∀al∈als,ea al.i≠none→t≠al.d:=fun al halm hea e=>by
  obtain⟨oa,hoa,hda, -⟩:=hals.2 al halm
  have hisal:n0o als al.i=true:=by unfold n0o;rw[h0v hals.1 halm];rfl
  obtain⟨b',hb'⟩:=Option.ne_none_iff_exists'.1 hea
  obtain⟨_, -, -,hmem, -⟩:=h.eal _ b' hb'
  have key:d0b ops (n0o als) (c0G ops.toList []) i b al.i true=true→False:=fun hp=>by
   obtain⟨d',h1,h2, -⟩:=(c0L hp ho hoa).flt (.inr hisal)
   rw[hda]at h1;cases h1
   exact h2 (e▸htl)
  rcases hi with⟨hip, -, -⟩|⟨r,hms,hne⟩
  ·exact key ((a0F (pre:=pre) (r:=ms) (by rw[←h.ord];exact hok)).2 _ hip _ hmem)
  ·rw[hms]at hmem
   rcases List.mem_cons.1 hmem with h9|h9
   ·cases h9;rw[hisal]at hne;cases hne
   ·exact key ((a0F (pre:=pre++[(i,b)]) (r:=r) (by have:=h.ord;rw[List.append_assoc,List.singleton_append,←hms,←this];exact hok)).2 (i,b) (by simp) _ h9)
 refine h.act t v ht (fun k hk ok hok' hdk=> ?_) hnal
 have hkp:=h.pdp k hk
 have hkn:ea k=none:=Classical.byContradiction fun hne=>by
  obtain⟨b',hb'⟩:=Option.ne_none_iff_exists'.1 hne
  obtain⟨al,halm,rfl,hmem, -⟩:=h.eal _ b' hb'
  obtain⟨oa,hoa,hda, -⟩:=hals.2 al halm
  exact(c0L ((a0F (pre:=pre) (r:=ms) (by rw[←h.ord];exact hok)).2 _ hkp _ hmem) hok' hoa).ne rfl
 have hkf:listed.getD k false=false:=(h.part k (Array.getElem?_eq_some_iff.1 hok').1).2 ⟨.inl hk,hkn⟩
 have direct:d0b ops (n0o als) (c0G ops.toList []) k false i b=true→False:=fun hp=>by
  obtain⟨e,he,hb,hon⟩:=(c0L hp hok' ho).reads t hdk htl
  have:=hdeps e he hb
  rw[hon,hkf]at this;cases this
 rcases hi with⟨hip,hiP,rfl⟩|⟨r,hms, -⟩
 ·
  obtain⟨p1,p2,hp12⟩:=List.append_of_mem hkp
  have hord:=h.ord
  rw[hp12,List.append_assoc]at hord
  rw[hp12]at hip
  rcases List.mem_append.1 hip with hip|hip
  ·
   have hq:=a0F (pre:=p1) (by rw[←hord];exact hok)
   have:=c0L (hq.2 _ hip (k,false) (List.mem_cons_self ..)) ho hok'
   obtain⟨d',h1,h2, -⟩:=this.flt (.inl rfl)
   rw[hdk]at h1;cases h1
   exact h2 htl
  ·rcases List.mem_cons.1 hip with he|hip
   ·cases he
    have hq:=(a0F (pre:=p1) (by rw[←hord];exact hok)).1
    rw[cA,b0H]at hq
    simp only[Bool.and_eq_true]at hq
    obtain rfl:o=ok:=by rw[ho]at hok';exact Option.some.inj hok'
    have:=hq.1.1
    rw[ho]at this
    simp only[hdk,Bool.false_or]at this
    simp at this
    exact this htl
   ·rw[show p1++((k,false)::p2++ms)=(p1++[(k,false)])++(p2++ms) by simp]at hord
    have hq:=a0F (pre:=p1++[(k,false)]) (by rw[←hord];exact hok)
    exact direct (hq.2 (k,false) (by simp) (i,false) (List.mem_append_left _ hip))
 ·have hq:=a0F (pre:=pre) (r:=ms) (by rw[←h.ord];exact hok)
  exact direct (hq.2 _ hkp (i,b) (by rw[hms];exact List.mem_cons_self ..))
theorem AB.op {i d:Nat}{r:List (Nat×Bool)}{E:Env}{H:List HE}{o:Oper}{v:AV}(ho:ops[i]? =some o)(h:OpW P N o (rst E (o.looksAt ops)) Hs (Is v))(hw:a0f ops (rst E (o.looksAt ops)) o=some true)(hd:o.dst=some d)(hN:Nat.ble (d+1) N=true)(k:AB P N ops als Hs K r ((d,v)::E) H):
  AB P N ops als Hs K ((i,false)::r) E H:=⟨o,d,v,ho,hd,lB hN,.run hw h,k⟩
theorem AB.opG {i d:Nat}{r:List (Nat×Bool)}{E:Env}{H:List HE}{o:Oper}{c:Bool}{v:AV}(ho:ops[i]? =some o)(hw:a0P ops (rst E (o.looksAt ops)) o=some c)(hd:o.dst=some d)(hN:Nat.ble (d+1) N=true)(h:c=true→OpW P N o (rst E (o.looksAt ops)) Hs (Is v))(k:AB P N ops als Hs K r ((d,.opt c v)::E) H):
  AB P N ops als Hs K ((i,false)::r) E H:=⟨o,d,_,ho,hd,lB hN,.opt hw h,k⟩
theorem AB.no {i d:Nat}{r:List (Nat×Bool)}{E:Env}{H:List HE}{o:Oper}(ho:ops[i]? =some o)(hw:a0f ops (rst E (o.looksAt ops)) o=some false)(hd:o.dst=some d)(hN:Nat.ble (d+1) N=true)(k:AB P N ops als Hs K r ((d,.val undef)::E) H):
  AB P N ops als Hs K ((i,false)::r) E H:=⟨o,d,_,ho,hd,lB hN,.no hw,k⟩
theorem AB.main {i:Nat}{r:List (Nat×Bool)}{E:Env}{H:List HE}(o:Oper)(ho:ops[i]? =some o)(hne:n0o als i=false)(h: ∀w0 R0,AO ⟨w0,a0z H,R0,N⟩ P ops (QS ⟨w0,a0z H,R0,N⟩ o.dst (fun v H'=>AB P N ops als Hs K r (a0w o.dst v E) H')) [o] (rst E (o.looksAt ops)) H):
  AB P N ops als Hs K ((i,true)::r) E H:=by
 have:s0I als i=none:=by unfold n0o at hne;exact Option.not_isSome_iff_eq_none.1 (by rw[hne];simp)
 rw[AB,this];exact⟨o,ho,h⟩
theorem AB.box {i:Nat}{r:List (Nat×Bool)}{E:Env}{H:List HE}(al:Al)(he:s0I als i=some al)(k: ∀b,AB P N ops als Hs K r ((al.d,.val (.pointer (some ⟨b,0,none⟩)))::E) (al.he b::H)):AB P N ops als Hs K ((i,true)::r) E H:=by rw[AB,he];exact k
theorem alsOk.nil {P:Program}{N:Nat}{ops:Array Oper}:alsOk P N ops []:=⟨.nil,fun _ h=>by cases h⟩
theorem alsOk.cons {P:Program}{N:Nat}{ops:Array Oper}{al:Al}{als:List Al}(h:al.ok P N ops)(hn:(als.map Al.i).contains al.i=false)(hs:alsOk P N ops als):alsOk P N ops (al::als):=by
 refine⟨?_,fun x hx=> ?_⟩
 ·rw[List.map_cons,List.nodup_cons]
  exact⟨fun hm=>(by rw[List.contains_iff_mem.2 hm]at hn;cases hn),hs.1⟩
 ·rcases List.mem_cons.1 hx with e|hx
  ·rw[e];exact h
  ·exact hs.2 x hx
theorem AB.nil {E:Env}{H:List HE}(h:K E H):AB P N ops als Hs K [] E H:=h
end
end Go.Proofs.YtojomcdjcpmnkaaGreat.A
