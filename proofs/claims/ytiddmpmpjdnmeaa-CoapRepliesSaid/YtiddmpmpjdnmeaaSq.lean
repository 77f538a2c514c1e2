/-
  Loops of which only what changes is told; index of strings and arrays.
-/
import Derived.Test.YtiddmpmpjdnmeaaSo
import Derived.Laws.MakeOwn
import Derived.Laws.IdiomStrings
namespace Go.Proofs.Ytiddmpmpjdnmeaa.A
open Go.RowKit L
set_option linter.unusedVariables false
set_option linter.unusedSimpArgs false
section
variable {Γ : Cx} {P : Program} {Q : Exit → Act → World → Prop} {E : Env} {H : List HE} {N : Nat} {o : Oper} {ops : Array Oper} {rest : List Oper}

theorem subPnil {H : List HE} : ∃ H1, H1.Sublist H ∧ ([] : List HE).Perm H1 := ⟨[], List.nil_sublist _, .nil⟩
theorem subPcons (i : Nat) {e : HE} {r H : List HE} (h : H[i]? = some e) (hr : ∃ H1, H1.Sublist (H.eraseIdx i) ∧ r.Perm H1) : ∃ H1, H1.Sublist H ∧ (e :: r).Perm H1 := by
  obtain ⟨H1, h1, h2⟩ := hr
  obtain ⟨hlt, rfl⟩ := List.getElem?_eq_some_iff.1 h
  rw [List.eraseIdx_eq_take_drop_succ, List.sublist_append_iff] at h1
  obtain ⟨A, B, rfl, hA, hB⟩ := h1
  refine ⟨A ++ H[i] :: B, ?_, ?_⟩
  · have e : H = H.take i ++ H[i] :: H.drop (i + 1) := by rw [← List.drop_eq_getElem_cons hlt, List.take_append_drop]
    have h9 : (A ++ H[i] :: B).Sublist (H.take i ++ H[i] :: H.drop (i + 1)) := hA.append (hB.cons_cons _)
    rwa [← e] at h9
  · exact (h2.cons _).trans (List.perm_middle.symm)
/-- What a loop only reads stays as it is. -/
def LoopK (K : Env) (I : Nat → Env → List HE → Prop) : Nat → Env → List HE → Prop := fun n E H => ∃ E1, I n E1 H ∧ E = E1 ++ K
theorem env_app {K E1 : Env} (h1 : ∀ p ∈ E1, look E p.1 = some p.2) (h2 : ∀ p ∈ K, look E p.1 = some p.2) : ∀ p ∈ E1 ++ K, look E p.1 = some p.2 := fun p hp => by
  rcases List.mem_append.1 hp with hp | hp
  · exact h1 p hp
  · exact h2 p hp
theorem AW.loopK {c : Code} (K : Env) (I : Nat → Env → List HE → Prop) (n : Nat) {E0 : Env} {H0 : List HE} (hI : I n E0 H0) (hK : ∀ p ∈ K, look E p.1 = some p.2) (hE : ∀ p ∈ E0, look E p.1 = some p.2) (hH : ∃ H1, H1.Sublist H ∧ H0.Perm H1)
    (round : ∀ n E1 H, I n E1 H → AW Γ P (LoopQ (LoopK K I) n Γ Q) c (E1 ++ K) H) : AW Γ P Q (.loop c) E H :=
  AW.loop (LoopK K I) n (E0 := E0 ++ K) (H0 := H0) ⟨E0, hI, rfl⟩ (env_app hE hK) hH (by
    rintro n _ H ⟨E1, h, rfl⟩
    exact round n E1 H h)
theorem AQ.loopKN {K : Env} {I : Nat → Env → List HE → Prop} {n : Nat} (m : Nat) (E1 : Env) (H0 : List HE) (hm : m < n) (hI : I m E1 H0) (hK : ∀ p ∈ K, look E p.1 = some p.2) (hE : ∀ p ∈ E1, look E p.1 = some p.2) (hH : ∃ H1, H1.Sublist H ∧ H0.Perm H1) :
    AQ Γ (LoopQ (LoopK K I) n Γ Q) .normal E H := AQ.loopN m (E1 ++ K) H0 hm ⟨E1, hI, rfl⟩ (env_app hE hK) hH

/-- s[i] of a string -/
theorem O.indexS {T : Nat} {x y : Operand} {k : IntKind} {z : Int} {s : ByteArray} {u : UInt8} [hT : TyD P T .string] (ho : o.op = .index T x y) (hx : ev E x = some (.val (.string s))) (hy : ev E y = some (.val (.int k z))) (hz : 0 ≤ z ∧ s.toList[z.toNat]? = some u) :
    OpW P N o E H (Is (.val (.int .u8 (u.toNat : Int)))) := .of_run fun R a W h1 h2 ha => by
  refine ⟨_, ?_, .val _⟩
  have h5 : s[z.toNat]? = some u := by
    have := hz.2
    rw [ByteArray.toList_eq] at this
    obtain ⟨h6, h7⟩ := List.getElem?_eq_some_iff.1 this
    have h8 : z.toNat < s.size := by simpa using h6
    rw [getElem?_pos s z.toNat h8]
    congr 1
  simp [execOp, ho, (ha.ev hx).val_inv, (ha.ev hy).val_inv, Instr.index, asIntOf, run_underlying hT.ax, hz.1, h5]

/-- x[l:h] of a slice that is the walk's own -/
theorem run_sliceBoundsV {R : Nat → Prop} {W : World} {a : Act} {low high : Option Operand} {n cap : Nat} {l h : Int} (ha : RelA N R W E a) (hl : bndV E low 0 = some l) (hh : bndV E high n = some h) (h0 : 0 ≤ l ∧ l ≤ h ∧ h ≤ cap) :
    (Instr.sliceBounds true n cap (low.map a.eval) (high.map a.eval) none).run P W = .ok (l.toNat, h.toNat, cap) W := by
  obtain ⟨h1, h2, hhc⟩ := h0
  cases high with
  | none =>
    obtain rfl : (n : Int) = h := by simpa [bndV] using hh
    cases low with
    | none =>
      obtain rfl : (0 : Int) = l := by simpa [bndV] using hl
      simp [Instr.sliceBounds]
    | some x =>
      obtain ⟨k, hk⟩ := bnd_ev ha hl
      simp [Instr.sliceBounds, Instr.sliceBound, hk, asIntOf, h1, h2]
  | some y =>
    obtain ⟨k', hk'⟩ := bnd_ev ha hh
    have h4 : 0 ≤ h := by omega
    cases low with
    | none =>
      obtain rfl : (0 : Int) = l := by simpa [bndV] using hl
      simp [Instr.sliceBounds, Instr.sliceBound, hk', asIntOf, h4, hhc]
    | some x =>
      obtain ⟨k, hk⟩ := bnd_ev ha hl
      have h5 : l ≤ max h 0 := by omega
      simp [Instr.sliceBounds, Instr.sliceBound, hk, hk', asIntOf, h1, h4, hhc]
      omega
theorem O.sliceV {T : Nat} {x : Operand} {low high : Option Operand} {b off n c : Nat} {l h : Int} {U sz bs : Nat} {zz : Value} [hs : TyS P T U sz bs zz] (ho : o.op = .slice T x low high none) (hx : ev E x = some (.val (.slice (some ⟨b, off, none⟩) n c))) (hl : bndV E low 0 = some l) (hh : bndV E high n = some h) (h0 : 0 ≤ l ∧ l ≤ h ∧ h ≤ c)
    (hc : l < c) : OpW P N o E H (Is (.val (.slice (some ⟨b, off + l.toNat * sz, none⟩) (h.toNat - l.toNat) (c - l.toNat)))) := .of_run fun R a W h1 h2 ha => by
  obtain ⟨i, hi, hi2, -⟩ := hs.el
  have hb := run_sliceBoundsV (P := P) (W := W) (cap := c) ha hl hh h0
  refine ⟨_, ?_, .val _⟩
  have hne : ¬ c = l.toNat := by omega
  simp only [execOp, ho, (ha.ev hx).val_inv, Instr.sliceAt, Instr.slice, run_underlying hs.ty, Sem.run_bind, Result.andThen_ok, hb, sizeOf, typeInfo, hi, hi2, run_program, Sem.run_pure, Option.map_none]
  simp [hne, addr_add]
/-- The empty part of a slice that is the walk's own. -/
theorem O.sliceV0 {T : Nat} {x : Operand} {low high : Option Operand} {b off n c : Nat} {l h : Int} {U sz bs : Nat} {zz : Value} [hs : TyS P T U sz bs zz] (ho : o.op = .slice T x low high none) (hx : ev E x = some (.val (.slice (some ⟨b, off, none⟩) n c))) (hl : bndV E low 0 = some l) (hh : bndV E high n = some h) (h0 : 0 ≤ l ∧ l ≤ h ∧ h ≤ c)
    (hc : h = l) (hcm : c ≤ maxLen) : OpW P N o E H (Is (.ro false 0 [])) := .of_run fun R a W h1 h2 ha => by
  obtain ⟨i, hi, hi2, -⟩ := hs.el
  subst hc
  have hb := run_sliceBoundsV (P := P) (W := W) (cap := c) ha hl hh h0
  refine ⟨.slice (if c = h.toNat then some ⟨b, off, none⟩ else some ⟨b, off + h.toNat * sz, none⟩) 0 (c - h.toNat), ?_, .emp _ _ _ (fun h => by cases h) (by omega)⟩
  simp only [execOp, ho, (ha.ev hx).val_inv, Instr.sliceAt, Instr.slice, run_underlying hs.ty, Sem.run_bind, Result.andThen_ok, hb, sizeOf, typeInfo, hi, hi2, run_program, Sem.run_pure, Option.map_none]
  split <;> simp [addr_add]

/-- x[l:h] of a slice that is read only, the bounds in plain numbers -/
theorem O.sliceLH {T : Nat} {x y y' : Operand} {full : Bool} {n l h : Nat} {kk kk' : IntKind} {z z' : Int} {xs ys : List AV} {U sz bs : Nat} {zz : Value} [hs : TyS P T U sz bs zz] (ho : o.op = .slice T x (some y) (some y') none) (hx : ev E x = some (.ro full n xs)) (hy : ev E y = some (.val (.int kk z))) (hy' : ev E y' = some (.val (.int kk' z')))
    (hz : z = (l : Int)) (hz' : z' = (h : Int)) (hlh : l ≤ h) (hhn : h ≤ n) (hys : (xs.drop (l * sz)).take ((h - l) * sz) = ys) : OpW P N o E H (Is (.ro false (h - l) ys)) := by
  subst hz
  subst hz'
  refine O.sliceR (l := (l : Int)) (h := (h : Int)) (m := h - l) ho hx (by simp [bndV, hy]) (by simp [bndV, hy']) ⟨by omega, by omega, by omega⟩ (by simp) (by simpa using hys) (fun h0 => ?_)
  rw [← hys, h0]; simp
/-- An append to the first n elements of a block of the walk's own: the others are lost. -/
theorem AO.appendCut {T T2 U k bs d : Nat} {z : Value} {s x : Operand} {w : AV} {i b n m cap : Nat} {xs ys zs : List AV} {H' : Value → List HE} [hs : TyS P T U k bs z] (ho : o.op = .call { callee := .builtin .append, args := #[s, x], argTypes := #[T, T2] }) (hgd : o.guard = none) (hd : o.dst = some d) (hN : Nat.ble (d + 1) Γ.N = true)
    (hz : Nat.beq z.cells.size k = true) (hk : Nat.ble 1 k = true) (hv : ev E s = some (.val (.slice (some ⟨b, 0, none⟩) n cap))) (hx : ev E x = some w) (hi : H[i]? = some (.blk b U (cap * k) xs)) (hnl : n * k ≤ xs.length) (hsrc : SrcA P T2 k H w m ys) (hone : ys.all AV.one = true) (hn : n + m ≤ maxLen) (hby : (n + m) * bs ≤ 140737488355328) (hcap : n ≤ cap ∧ cap ≤ maxLen)
    (hzs : xs.take (n * k) ++ ys = zs) (hH : ∀ v', H.set i (.row v' U k (n + m) zs) = H' v')
    (next : ∀ v' : Value, v'.oneCell' = true → AO Γ P ops Q rest ((d, .val v') :: E) (H' v')) : AO Γ P ops Q (o :: rest) E H := fun R a W hs' ha => by
  have hmem := List.mem_of_getElem? hi
  obtain ⟨us0, cs, hb, hsz, ht, hr0⟩ := hs'.ok _ hmem
  have hr := hr0.take (n * k)
  have hown : W.ownsRow 0 U k (.slice (some ⟨b, 0, none⟩) n cap) n (us0.take (n * k)) :=
    ⟨by rw [hr.1, List.length_take]; omega, .inr ⟨b, cap, cs, rfl, Nat.zero_le _, hb, hcap.1, hcap.2, by omega, by rw [← ht, List.take_take]; congr 1; omega⟩⟩
  obtain ⟨news, h1, h2⟩ := hsrc.2 R W (a.eval x) hs'.ok (ha.ev hx)
  obtain ⟨v', W', hrun, hown', hgr, hblk, h1c⟩ := run_append_row hs (Nat.eq_of_beq_eq_true hz) (Nat.le_of_ble_eq_true hk) hown (h2 (h1.all_one hone)) hn hby o.type
  unfold wpList
  rw [if_pos (by unfold Region.wanted; rw [hgd])]
  refine .inl ?_
  unfold Oper.wp
  rw [append_exec ho (by rw [(ha.ev hv).val_inv]; exact hrun)]
  show wpList P ops Q rest (a.put o.dst v') W'
  rw [hd]
  have hm : Mods (fun c => (HE.blk b U (cap * k) xs).foot c) W W' := Mods.grown (Mods.refl _ _) hgr fun c hc _ => by
    have : some b = some c := hc
    cases this; rfl
  have hR : ∀ c, R c → W'.heap[c]? = W.heap[c]? := fun c hc => hm.block c (hs'.rlt c hc) fun hh => (hs'.own _ hmem c hh).2 hc
  have this := next v' h1c R (a.put (some d) v') W'
  rw [← hH, ← hzs] at this
  refine this (hs'.setEntry hi hm (fun c hc => ?_) ⟨_, hown', (hr.app h1).mono (fun _ h => h) hR⟩) ((ha.keep hR).put (Nat.le_of_ble_eq_true hN) (.val _))
  rcases hblk with hb | hb
  · rw [HE.foot, hb] at hc
    have : some b = some c := hc
    cases this; exact .inl rfl
  · rw [HE.foot, hb] at hc; cases hc; exact .inr (Nat.le_refl _)
/-- Of a block less is known. -/
theorem G.short {X : Act → World → Prop} (i m : Nat) {b T room : Nat} {xs : List AV} (hi : H[i]? = some (.blk b T room xs)) (k : G Γ E (H.set i (.blk b T room (xs.take m))) X) : G Γ E H X := fun R a W hs ha => by
  have hmem := List.mem_of_getElem? hi
  obtain ⟨us, cs, hb, hsz, ht, hrl⟩ := hs.ok _ hmem
  refine k R a W (hs.setSame hi (fun c hc => hc) ⟨us.take m, cs, hb, hsz, ?_, hrl.take m⟩) ha
  rw [← ht, List.take_take, List.length_take]

/-- make([]T, n) -/
theorem O.makeSlice {T U k bs : Nat} {z : Value} {x y : Operand} {n : Nat} {kl kc : IntKind} {p q : Int} [hs : TyS P T U k bs z] (ho : o.op = .makeSlice T x y) (hx : ev E x = some (.val (.int kl p))) (hy : ev E y = some (.val (.int kc q))) (hp : p = (n : Int)) (hq : q = (n : Int)) (hn : n * bs ≤ 140737488355328) (hn2 : n ≤ maxLen) (hzk : Nat.beq z.cells.size k = true) :
    OpW P N o E H (NewBlk (fun b => .val (.slice (some ⟨b, 0, none⟩) n n)) U (n * k) (zerosA n z)) := fun R a W h0 h2 h3' ha => by
  obtain ⟨i, hi, hik, hib, hz⟩ := hs.el
  subst hp
  subst hq
  unfold maxLen at hn2
  have hr : (execOp a.eval o).run P W = .ok (.value (.slice (some ⟨W.heap.size, 0, none⟩) n n)) (W.alloc (.cells (madeCells z.cells (n * k)) U)) := by
    simp only [execOp, ho, (ha.ev hx).val_inv, (ha.ev hy).val_inv]
    rw [Sem.run_bind, run_make (P := P) W T U i z hs.ty hi hz kl kc n n (by omega) (Int.le_refl _) (by rw [hib]; have : ((n * bs : Nat) : Int) ≤ 140737488355328 := by omega
                                                                                                       rw [Int.natCast_mul, Int.mul_comm] at this; omega) (by omega)]
    simp only [Int.toNat_natCast, hik]
    rfl
  unfold Oper.wp
  rw [hr]
  refine ⟨_, _, _, R, rfl, ⟨W.heap.size, rfl, rfl⟩, post1_new h0 U _ (n * k) (zerosA n z) (size_madeCells _ _) ?_ (fun _ _ => .val _)⟩
  have e : (madeCells z.cells (n * k)).toList.map AV.val = zerosA n z := by
    unfold madeCells zerosA
    rw [zeros_cells z k (Nat.eq_of_beq_eq_true hzk) n, List.map_flatten, List.map_replicate]
  rw [← e, List.length_map, List.take_length]
  exact relL_vals R W _

/-- []byte(s) -/
theorem O.toBytes {S T U : Nat} {x : Operand} {s : ByteArray} {l : List UInt8} [hS : TyD P S .string] [hT : TyD P T (.slice U)] [hU : TyD P U (.int .u8)] (ho : o.op = .convert S T x) (hx : ev E x = some (.val (.string s))) (hl : s.data.toList = l) (hm : l.length ≤ maxLen) :
    OpW P N o E H (Is (roB l)) := fun R a W h0 h2 h3 ha => by
  have hr : (execOp a.eval o).run P W = .ok (.value (.slice (some ⟨W.heap.size, 0, none⟩) s.size (grownCap W s.size 0 U)))
      (W.drew.alloc (.cells (bytesRow s (grownCap W s.size 0 U)) U ((bytesRow s (grownCap W s.size 0 U)).size, (bytesRow s (grownCap W s.size 0 U)).size + 1))) := by
    simp only [execOp, ho, (ha.ev hx).val_inv]
    rw [Sem.run_bind, run_bytes_of_string W S T U s hS.ax hT.ax hU.ax]
    rfl
  have hsz : s.size = l.length := by rw [← hl]; exact Array.length_toList.symm
  unfold Oper.wp
  rw [hr]
  have hE : Ext W (W.drew.alloc (.cells (bytesRow s (grownCap W s.size 0 U)) U ((bytesRow s (grownCap W s.size 0 U)).size, (bytesRow s (grownCap W s.size 0 U)).size + 1))) := Mods.alloc (Mods.drew (Mods.refl _ _)) _
  have hnew := heap_alloc_new W.drew (.cells (bytesRow s (grownCap W s.size 0 U)) U ((bytesRow s (grownCap W s.size 0 U)).size, (bytesRow s (grownCap W s.size 0 U)).size + 1))
  refine ⟨_, roB l, [], fun b => R b ∨ b = W.heap.size, rfl, ⟨rfl, rfl⟩, hE, fun _ h => .inl h, ?_, ?_, fun _ he => (by cases he), .nil⟩
  · rintro b (hb | rfl)
    · exact .inl hb
    · refine .inr ⟨Nat.le_refl _, ?_⟩
      have h9 : W.drew.heap.size = W.heap.size := rfl
      rw [h9] at hnew
      exact (Array.getElem?_eq_some_iff.1 hnew).1
  · unfold roB
    rw [hsz]
    refine .ro false l.length (bytesA l) W.heap.size 0 _ (fun j => .int .u8 ((l.getD j 0).toNat : Int)) (.inr rfl) (fun j hj => ?_) (fun j hj => ?_) ?_ ?_ (fun h => by cases h)
    · have hj' : j < l.length := by simpa using hj
      have hj2 : j < s.data.size := by rw [← hl] at hj'; simpa using hj'
      have hcell : (bytesRow s (grownCap W l.length 0 U))[j]? = some (.int .u8 ((l.getD j 0).toNat : Int)) := by
        rw [bytesRow_at s _ j hj2]
        subst hl
        simp [List.getD, Array.getElem?_eq_getElem hj2]
      have h9 : W.drew.heap.size = W.heap.size := rfl
      rw [h9] at hnew
      rw [Nat.zero_add]
      rw [hsz] at hnew
      simp only [World.cell?, hnew]
      simpa using hcell
    · have hj' : j < l.length := by simpa using hj
      simp only [bytesA, List.getElem_map, List.getD, List.getElem?_eq_getElem hj', Option.getD_some]
      exact .val _
    · rw [← hsz]; exact grownCap_ge ..
    · exact grownCap_le_maxLen _ _ _ _ hm
end
end Go.Proofs.Ytiddmpmpjdnmeaa.A
