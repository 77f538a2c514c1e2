/-
  What one more statement's walk and plain law need. No condition.
-/
import Derived.Test.YtochjihddnkhcaaZ4
namespace Go.Proofs.Ytochjihddnkhcaa.A
open Go.RowKit L
set_option linter.unusedVariables false
set_option linter.unusedSimpArgs false

section
variable {P : Program} {E : Env} {H : List HE} {N : Nat} {o : Oper}

theorem O.neqS {T T' : Nat} {x y : Operand} {p q : ByteArray} {c : Bool} (ho : o.op = .binOp .neq T x y T') (hx : ev E x = some (.val (.string p))) (hy : ev E y = some (.val (.string q))) (hc : (p.toList != q.toList) = c) :
    OpW P N o E H (Is (.val (.bool c))) := O.bin ho hx hy fun W => by simp [eqGuard, binOp, Op.stringOp, ← hc, bne]

end
end Go.Proofs.Ytochjihddnkhcaa.A

namespace Go.Proofs.Ytochjihddnkhcaa.A
open Go.RowKit L
set_option linter.unusedVariables false
set_option linter.unusedSimpArgs false
section
variable {Γ : Cx} {P : Program} {Q : Exit → Act → World → Prop} {E : Env} {H : List HE} {N : Nat} {o : Oper} {ops : Array Oper} {rest : List Oper}

/-- x[l:h] of a slice that is the walk's own -/
theorem run_sliceBoundsV {R : Nat → Prop} {W : World} {a : Act} {low high : Option Operand} {n cap : Nat} {l h : Int} (ha : RelA N R W E a) (hl : bndV E low 0 = some l) (hh : bndV E high n = some h) (h0 : 0 ≤ l ∧ l ≤ h ∧ h ≤ cap) :
    (Instr.sliceBounds true n cap (low.map a.eval) (high.map a.eval) none).run P W = .ok (l.toNat, h.toNat, cap) W := by
  obtain ⟨h1, h2, hhc⟩ := h0
  cases high with
  | none =>
    obtain rfl : (n : Int) = h := by simpa [bndV] using hh
    cases low with
    | none =>
      obtain rfl : (0 : Int) = l := by simpa [bndV] using hl
      simp [Instr.sliceBounds]
    | some x =>
      obtain ⟨k, hk⟩ := bnd_ev ha hl
      simp [Instr.sliceBounds, Instr.sliceBound, hk, asIntOf, h1, h2]
  | some y =>
    obtain ⟨k', hk'⟩ := bnd_ev ha hh
    have h4 : 0 ≤ h := by omega
    cases low with
    | none =>
      obtain rfl : (0 : Int) = l := by simpa [bndV] using hl
      simp [Instr.sliceBounds, Instr.sliceBound, hk', asIntOf, h4, hhc]
    | some x =>
      obtain ⟨k, hk⟩ := bnd_ev ha hl
      have h5 : l ≤ max h 0 := by omega
      simp [Instr.sliceBounds, Instr.sliceBound, hk, hk', asIntOf, h1, h4, hhc]
      omega
theorem O.sliceV {T : Nat} {x : Operand} {low high : Option Operand} {b off n c : Nat} {l h : Int} {U sz bs : Nat} {zz : Value} [hs : TyS P T U sz bs zz] (ho : o.op = .slice T x low high none) (hx : ev E x = some (.val (.slice (some ⟨b, off, none⟩) n c))) (hl : bndV E low 0 = some l) (hh : bndV E high n = some h) (h0 : 0 ≤ l ∧ l ≤ h ∧ h ≤ c)
    (hc : l < c) : OpW P N o E H (Is (.val (.slice (some ⟨b, off + l.toNat * sz, none⟩) (h.toNat - l.toNat) (c - l.toNat)))) := .of_run fun R a W h1 h2 ha => by
  obtain ⟨i, hi, hi2, -⟩ := hs.el
  have hb := run_sliceBoundsV (P := P) (W := W) (cap := c) ha hl hh h0
  refine ⟨_, ?_, .val _⟩
  have hne : ¬ c = l.toNat := by omega
  simp only [execOp, ho, (ha.ev hx).val_inv, Instr.sliceAt, Instr.slice, run_underlying hs.ty, Sem.run_bind, Result.andThen_ok, hb, sizeOf, typeInfo, hi, hi2, run_program, Sem.run_pure, Option.map_none]
  simp [hne, addr_add]
/-- The empty part of a slice that is the walk's own. -/
theorem O.sliceV0 {T : Nat} {x : Operand} {low high : Option Operand} {b off n c : Nat} {l h : Int} {U sz bs : Nat} {zz : Value} [hs : TyS P T U sz bs zz] (ho : o.op = .slice T x low high none) (hx : ev E x = some (.val (.slice (some ⟨b, off, none⟩) n c))) (hl : bndV E low 0 = some l) (hh : bndV E high n = some h) (h0 : 0 ≤ l ∧ l ≤ h ∧ h ≤ c)
    (hc : h = l) (hcm : c ≤ maxLen) : OpW P N o E H (Is (.ro false 0 [])) := .of_run fun R a W h1 h2 ha => by
  obtain ⟨i, hi, hi2, -⟩ := hs.el
  subst hc
  have hb := run_sliceBoundsV (P := P) (W := W) (cap := c) ha hl hh h0
  refine ⟨.slice (if c = h.toNat then some ⟨b, off, none⟩ else some ⟨b, off + h.toNat * sz, none⟩) 0 (c - h.toNat), ?_, .emp _ _ _ (fun h => by cases h) (by omega)⟩
  simp only [execOp, ho, (ha.ev hx).val_inv, Instr.sliceAt, Instr.slice, run_underlying hs.ty, Sem.run_bind, Result.andThen_ok, hb, sizeOf, typeInfo, hi, hi2, run_program, Sem.run_pure, Option.map_none]
  split <;> simp [addr_add]

/-- An append to the first n elements of a block of the walk's own: the others are lost. -/
theorem AO.appendCut {T T2 U k bs d : Nat} {z : Value} {s x : Operand} {w : AV} {i b n m cap : Nat} {xs ys zs : List AV} {H' : Value → List HE} [hs : TyS P T U k bs z] (ho : o.op = .call { callee := .builtin .append, args := #[s, x], argTypes := #[T, T2] }) (hgd : o.guard = none) (hd : o.dst = some d) (hN : Nat.ble (d + 1) Γ.N = true)
    (hz : Nat.beq z.cells.size k = true) (hk : Nat.ble 1 k = true) (hv : ev E s = some (.val (.slice (some ⟨b, 0, none⟩) n cap))) (hx : ev E x = some w) (hi : H[i]? = some (.blk b U (cap * k) xs)) (hnl : n * k ≤ xs.length) (hsrc : SrcA P T2 k H w m ys) (hone : ys.all AV.one = true) (hn : n + m ≤ maxLen) (hby : (n + m) * bs ≤ 140737488355328) (hcap : n ≤ cap ∧ cap ≤ maxLen)
    (hzs : xs.take (n * k) ++ ys = zs) (hH : ∀ v', H.set i (.row v' U k (n + m) zs) = H' v')
    (next : ∀ v' : Value, v'.oneCell' = true → AO Γ P ops Q rest ((d, .val v') :: E) (H' v')) : AO Γ P ops Q (o :: rest) E H := fun R a W hs' ha => by
  have hmem := List.mem_of_getElem? hi
  obtain ⟨us0, cs, hb, hsz, ht, hr0⟩ := hs'.ok _ hmem
  have hr := hr0.take (n * k)
  have hown : W.ownsRow 0 U k (.slice (some ⟨b, 0, none⟩) n cap) n (us0.take (n * k)) :=
    ⟨by rw [hr.1, List.length_take]; omega, .inr ⟨b, cap, cs, rfl, Nat.zero_le _, hb, hcap.1, hcap.2, by omega, by rw [← ht, List.take_take]; congr 1; omega⟩⟩
  obtain ⟨news, h1, h2⟩ := hsrc.2 R W (a.eval x) hs'.ok (ha.ev hx)
  obtain ⟨v', W', hrun, hown', hgr, hblk, h1c⟩ := run_append_row hs (Nat.eq_of_beq_eq_true hz) (Nat.le_of_ble_eq_true hk) hown (h2 (h1.all_one hone)) hn hby o.type
  unfold wpList
  rw [if_pos (by unfold Region.wanted; rw [hgd])]
  refine .inl ?_
  unfold Oper.wp
  rw [append_exec ho (by rw [(ha.ev hv).val_inv]; exact hrun)]
  show wpList P ops Q rest (a.put o.dst v') W'
  rw [hd]
  have hm : Mods (fun c => (HE.blk b U (cap * k) xs).foot c) W W' := Mods.grown (Mods.refl _ _) hgr fun c hc _ => by
    have : some b = some c := hc
    cases this; rfl
  have hR : ∀ c, R c → W'.heap[c]? = W.heap[c]? := fun c hc => hm.block c (hs'.rlt c hc) fun hh => (hs'.own _ hmem c hh).2 hc
  have this := next v' h1c R (a.put (some d) v') W'
  rw [← hH, ← hzs] at this
  refine this (hs'.setEntry hi hm (fun c hc => ?_) ⟨_, hown', (hr.app h1).mono (fun _ h => h) hR⟩) ((ha.keep hR).put (Nat.le_of_ble_eq_true hN) (.val _))
  rcases hblk with hb | hb
  · rw [HE.foot, hb] at hc
    have : some b = some c := hc
    cases this; exact .inl rfl
  · rw [HE.foot, hb] at hc; cases hc; exact .inr (Nat.le_refl _)
end
end Go.Proofs.Ytochjihddnkhcaa.A

namespace Go.Proofs.Ytochjihddnkhcaa.A
open Go.RowKit L
set_option linter.unusedVariables false
set_option linter.unusedSimpArgs false

section
variable {P : Program} {ops : Array Oper} {N : Nat}

variable {Γ : Cx} {Hs : List HE} {K : Env → List HE → Prop} {ord : List (Nat × Bool)}

theorem AW.regionM {Q : Exit → Act → World → Prop} {E : Env} {H : List HE} {id : Nat} {l : List Oper} (ord : List (Nat × Bool)) {Hm Hs : List HE} (hm : P.follows .mixedOrders = true) (hok : ordOk l.toArray ord = true) (hH : SplitH E H Hm Hs)
    (h : AM P Γ.N l.toArray Hs (fun E' H' => AQ Γ Q .normal E' (H' ++ Hs)) ord E Hm) : AW Γ P Q (.region id l.toArray true) E H := fun R a W hs0 ha0 => by
  obtain ⟨ops, hops⟩ : ∃ ops, ops = l.toArray := ⟨_, rfl⟩
  rw [← hops] at h hok
  simp only [ordOk, Bool.and_eq_true, List.all_eq_true, List.mem_range] at hok
  obtain ⟨⟨⟨hall, hlt⟩, hbk⟩, hpairs⟩ := hok
  have hback : ∀ i o, ops[i]? = some o → ∀ e ∈ o.after, Region.binds .any e = true → e.on < i := fun i o ho e he hb => by
    have hi : i < ops.size := (Array.getElem?_eq_some_iff.1 ho).1
    have := hbk i hi
    rw [ho] at this
    simp only [Option.all_some] at this
    have := Array.all_eq_true_iff_forall_mem.1 this e he
    simpa [hb] using this
  have main : ∀ (fuel : Nat) (listed : Array Bool) (A : Act) (W : World) (pre ms : List (Nat × Bool)) (Pd : List Nat) (E : Env) (H : List HE) (R : Nat → Prop), fuel = listed.toList.count false →
      MI P Γ ops Hs (fun E' H' => AQ Γ Q .normal E' (H' ++ Hs)) ord listed A W pre ms Pd E H R → (ms = [] ∨ ∃ m r, ms = (m, true) :: r) → wpAny P .any ops Q fuel listed A W := by
    intro fuel
    induction fuel with
    | zero =>
      intro listed A W pre ms Pd E H R hc hI hhd
      have hlist : ∀ i, i < ops.size → listed.getD i false = true := by
        intro i hi
        have hi' : i < listed.size := by rw [hI.size]; exact hi
        cases hb : listed.getD i false with
        | true => rfl
        | false =>
          exfalso
          have hm : false ∈ listed.toList := by
            rw [← hb]; simp [Array.getD, hi']
          have := List.count_pos_iff.2 hm
          omega
      have hin : ∀ i b, (i, b) ∈ ord → i < ops.size := fun i b hib => by have := hlt _ hib; simpa using this
      have hms : ms = [] := by
        rcases hhd with h | ⟨m, r, h⟩
        · exact h
        · have h1 := hin m true (by rw [hI.ord, h]; simp)
          have := (hI.part m h1).2 (.inr (by rw [h]; simp))
          rw [hlist m h1] at this; cases this
      have hPd : Pd = [] := by
        rw [List.eq_nil_iff_forall_not_mem]
        intro i hi
        have h1 := hin i false (by rw [hI.ord]; exact List.mem_append_left _ (hI.pdp i hi))
        have := (hI.part i h1).2 (.inl hi)
        rw [hlist i h1] at this; cases this
      subst hms
      subst hPd
      refine ⟨?_, hI.am R A W hI.rels ⟨hI.defers, hI.tmps, fun t v ht => hI.act t v ht fun i hi => (by cases hi)⟩⟩
      rw [List.eq_nil_iff_forall_not_mem]
      intro i hi
      obtain ⟨h0, o, ho, _⟩ := mem_ready.1 hi
      have hi' : i < ops.size := (Array.getElem?_eq_some_iff.1 ho).1
      have := hlist i hi'
      rw [← getD_tf (by rw [hI.size]; exact hi')] at this
      rw [this] at h0; cases h0
    | succ fuel ih =>
      intro listed A W pre ms Pd E H R hc hI hhd
      have hne : ∃ i, i ∈ Region.ready .any ops listed := by
        have hex : ∃ i, i < ops.size ∧ listed.getD i false = false := by
          have hpos : 0 < listed.toList.count false := by omega
          obtain ⟨i, hi, hf⟩ := List.getElem_of_mem (List.count_pos_iff.1 hpos)
          have hi' : i < listed.size := by simpa using hi
          exact ⟨i, by rw [← hI.size]; exact hi', by simpa [Array.getD, hi'] using hf⟩
        obtain ⟨i, ⟨hi, hf⟩, hmin⟩ : ∃ i, (i < ops.size ∧ listed.getD i false = false) ∧ ∀ j, j < i → ¬ (j < ops.size ∧ listed.getD j false = false) := by
          obtain ⟨i, h⟩ := hex
          exact least ⟨i, h⟩
        have hio : ops[i]? = some ops[i] := by simp [hi]
        refine ⟨i, mem_ready.2 ⟨by rw [getD_tf (by rw [hI.size]; exact hi)]; exact hf, _, hio, fun e he hb => ?_⟩⟩
        have := hback i _ hio e he hb
        cases hb2 : listed.getD e.on false with
        | true => rfl
        | false => exact absurd ⟨by omega, hb2⟩ (hmin e.on this)
      refine ⟨fun e => (by obtain ⟨i, hi⟩ := hne; rw [e] at hi; cases hi), fun i hi => ?_⟩
      obtain ⟨h0, o, ho, hdeps⟩ := mem_ready.1 hi
      have hio : i < ops.size := (Array.getElem?_eq_some_iff.1 ho).1
      have hf : listed.getD i false = false := by rw [← getD_tf (by rw [hI.size]; exact hio)]; exact h0
      have hil : i < listed.size := by rw [hI.size]; exact hio
      have hanc : ∀ j, j ∈ (ancs ops.toList []).getD i [] → listed.getD j false = true := fun j hj => anc_listed hI.closed hback i o ho hdeps j hj
      have hcl := closed_set hI.closed ho hil hdeps
      have hcnt : fuel = (listed.setIfInBounds i true).toList.count false := by
        have hcs := count_set_true listed.toList i (by simpa using hil) (by simpa [Array.getD, hil] using hf)
        simp only [Array.toList_setIfInBounds]
        omega
      have hgd : ∀ k, k ≠ i → (listed.setIfInBounds i true).getD k false = listed.getD k false := fun k hk => getD_set_ne false (Ne.symm hk)
      have hgi : (listed.setIfInBounds i true).getD i false = true := by simp [Array.getD, hil]
      have hsz : (listed.setIfInBounds i true).size = ops.size := by simpa using hI.size
      rcases (hI.part i hio).1 hf with hPd | hms
      · -- one that reads
        obtain ⟨o', d, v, ho', hd, hN, hlk, hop⟩ := hI.pend i hPd
        obtain rfl : o = o' := by rw [ho] at ho'; exact Option.some.inj ho'
        have hA := hI.reads hpairs ho hdeps (b := false) (.inl ⟨hI.pdp i hPd, hPd, rfl⟩)
        have hs := hop R A W hI.rels.rlt (fun e he => hI.rels.ok e (List.mem_append_right _ he)) (fun e he b hb => (hI.rels.own e (List.mem_append_right _ he) b hb).2) hA
        have hnext : ∀ u W', (∃ v' Hn R', Is v v' Hn ∧ Post1 R W v' Hn u W' R') → wpAny P .any ops Q fuel (listed.setIfInBounds i true) (A.put o.dst u) W' := by
          rintro u W' ⟨v', Hn, R', ⟨rfl, rfl⟩, hp⟩
          have hnm : i ∉ ms.map Prod.fst := fun hm => by
            obtain ⟨⟨j, c⟩, hq, hji⟩ := List.mem_map.1 hm
            have hq2 := (ordPairs_app (pre := pre) (r := ms) (by rw [← hI.ord]; exact hpairs)).2 _ (hI.pdp i hPd) _ hq
            simp only at hji
            subst hji
            exact (pairOk hq2 ho ho).ne rfl
          refine ih _ _ _ pre ms (Pd.filter (· ≠ i)) E H R' hcnt ⟨hsz, hcl, fun k hk => ?_, hI.ord, fun k hk => hI.pdp k (List.mem_filter.1 hk).1, hI.am, fun k hk => hI.pend k (List.mem_filter.1 hk).1, by simpa using hI.rels.step hp, ?_, ?_, fun t x ht hpd => ?_⟩ hhd
          · by_cases hki : k = i
            · subst hki
              rw [hgi]
              simp [hnm]
            · rw [hgd k hki, hI.part k hk]
              simp [hki]
          · rw [hd]; exact hI.defers
          · rw [hd]; simp [Act.put, hI.tmps]
          · rw [hd]
            by_cases hdt : d = t
            · subst hdt
              rw [hlk] at ht
              cases ht
              rw [eval_put_same (by rw [hI.tmps]; exact hN)]; exact hp.val
            · rw [eval_put_other hdt]
              refine (hI.act t x ht fun k hk ok hok hdk => ?_).mono hp.sub (extSame hp.ext hI.rels.rlt)
              by_cases hki : k = i
              · subst hki
                rw [ho] at hok
                cases hok
                rw [hd] at hdk
                cases hdk
                exact hdt rfl
              · exact hpd k (List.mem_filter.2 ⟨hk, by simpa using hki⟩) ok hok hdk
        unfold wpOp
        rw [ho]
        unfold FStep at hs
        show if Region.wanted o (yielded ops A.tmps) = true then _ else _
        split
        · rename_i hw
          rw [if_pos hw] at hs
          refine .inl (Oper.wp_mono ?_ (wp_of_noQ hs))
          rintro A' W' ⟨u, rfl, hp⟩
          exact hnext u W' hp
        · rename_i hw
          rw [if_neg hw] at hs
          exact hnext _ _ hs
      · -- the next that writes
        rcases hhd with rfl | ⟨m, r, rfl⟩
        · cases hms
        have hmlt : m < ops.size := by have := hlt (m, true) (by rw [hI.ord]; simp); simpa using this
        have hmf : listed.getD m false = false := (hI.part m hmlt).2 (.inr (by simp))
        have him : i = m := by
          rcases List.mem_cons.1 hms with h | h
          · exact h
          · exfalso
            obtain ⟨⟨j, c⟩, hq, hji⟩ := List.mem_map.1 h
            simp only at hji
            subst hji
            have h9 := (ordPairs_app (pre := pre ++ [(m, true)]) (r := r) (by have := hI.ord; rw [List.append_assoc, List.singleton_append, ← this]; exact hpairs)).2 (m, true) (by simp) _ hq
            have hom : ops[m]? = some ops[m] := by simp [hmlt]
            have := hanc m ((pairOk h9 hom ho).main rfl)
            rw [hmf] at this; cases this
        subst him
        obtain ⟨o', ho', hAO⟩ := hI.am
        obtain rfl : o = o' := by rw [ho] at ho'; exact Option.some.inj ho'
        have hA := hI.reads hpairs ho hdeps (b := true) (.inr ⟨r, rfl⟩)
        have hs := hAO W R R A W ⟨Mods.refl _ _, hI.rels.rlt, fun _ h => h, fun _ h => .inl h, fun e he => hI.rels.ok e (List.mem_append_left _ he), fun e he b hb => ⟨.inr ⟨e, he, hb⟩, (hI.rels.own e (List.mem_append_left _ he) b hb).2⟩, (List.pairwise_append.1 hI.rels.disj).1⟩ hA
        have hnext : ∀ u W', QS ⟨W, footOf H, R, Γ.N⟩ o.dst (fun v H' => AM P Γ.N ops Hs (fun E' H' => AQ Γ Q .normal E' (H' ++ Hs)) r (putE o.dst v E) H') .normal (A.put o.dst u) W' → wpAny P .any ops Q fuel (listed.setIfInBounds i true) (A.put o.dst u) W' := by
          rintro u W' ⟨hdf, v, H', R', ham, hsr, hvr⟩
          obtain ⟨hrel, hRW⟩ := RelS.part hI.rels hsr
          have hpd : ∀ k ∈ Pd, ∀ ok, ops[k]? = some ok → ∀ d, o.dst = some d → d ∉ ok.looksAt ops ∧ ok.dst ≠ some d := fun k hk ok hok d hd => by
            have h9 := (ordPairs_app (pre := pre) (r := (i, true) :: r) (by rw [← hI.ord]; exact hpairs)).2 _ (hI.pdp k hk) (i, true) (List.mem_cons_self ..)
            have hkf : listed.getD k false = false := (hI.part k (Array.getElem?_eq_some_iff.1 hok).1).2 (.inl hk)
            have hno : k ∉ (ancs ops.toList []).getD i [] := fun hm => by
              have := hanc k hm
              rw [hkf] at this; cases this
            exact ⟨fun hm => hno ((pairOk h9 hok ho).mn rfl d hd (.inl hm)), fun he => hno ((pairOk h9 hok ho).mn rfl d hd (.inr he))⟩
          have hnr : i ∉ r.map Prod.fst := fun hm => by
            obtain ⟨⟨j, c⟩, hq, hji⟩ := List.mem_map.1 hm
            have h9 := (ordPairs_app (pre := pre ++ [(i, true)]) (r := r) (by have := hI.ord; rw [List.append_assoc, List.singleton_append, ← this]; exact hpairs)).2 (i, true) (by simp) _ hq
            simp only at hji
            subst hji
            exact (pairOk h9 ho ho).ne rfl
          have hnp : i ∉ Pd := fun hk => by
            have h9 := (ordPairs_app (pre := pre) (r := (i, true) :: r) (by rw [← hI.ord]; exact hpairs)).2 _ (hI.pdp i hk) (i, true) (List.mem_cons_self ..)
            exact (pairOk h9 ho ho).ne rfl
          have hI' : MI P Γ ops Hs (fun E' H' => AQ Γ Q .normal E' (H' ++ Hs)) ord (listed.setIfInBounds i true) (A.put o.dst u) W' (pre ++ [(i, true)]) r Pd (putE o.dst v E) H' R' := by
            refine ⟨hsz, hcl, fun k hk => ?_, by rw [hI.ord]; simp, fun k hk => List.mem_append_left _ (hI.pdp k hk), ham, fun k hk => ?_, hrel, hdf, ?_, fun t x ht hp => ?_⟩
            · by_cases hki : k = i
              · subst hki
                rw [hgi]
                simp [hnr, hnp]
              · rw [hgd k hki, hI.part k hk]
                simp [hki]
            · obtain ⟨ok, dk, vk, h1, h2, h3, h4, h5⟩ := hI.pend k hk
              refine ⟨ok, dk, vk, h1, h2, h3, ?_, ?_⟩
              · cases hd : o.dst with
                | none => exact h4
                | some d => rw [putE, look_skip (fun e => (hpd k hk ok h1 d hd).2 (by rw [h2, e]))]; exact h4
              · cases hd : o.dst with
                | none => exact h5
                | some d => rw [putE, rst_skip (hpd k hk ok h1 d hd).1]; exact h5
            · cases hd : o.dst <;> simp [Act.put, hI.tmps]
            · cases hd : o.dst with
              | none =>
                rw [hd] at ht
                exact (hI.act t x ht hp).mono hsr.rsub hRW
              | some d =>
                rw [hd, putE] at ht
                by_cases hdt : d = t
                · subst hdt
                  rw [look_here] at ht
                  cases ht
                  have := hvr d hd
                  rwa [hd] at this
                · rw [look_skip hdt] at ht
                  rw [eval_put_other hdt]
                  exact (hI.act t x ht hp).mono hsr.rsub hRW
          obtain ⟨pre', ms', Pd', E', hI2, hh2⟩ := hI'.absorb hpairs
          exact ih _ _ _ pre' ms' Pd' E' H' R' hcnt hI2 hh2
        unfold wpOp
        rw [ho]
        unfold wpList at hs
        show if Region.wanted o (yielded ops A.tmps) = true then _ else _
        split
        · rename_i hw
          rw [if_pos hw] at hs
          refine .inl ?_
          rcases hs with hs | ⟨-, a', w', hl⟩
          · have hs2 : o.wp P A W (wpList P ops (QS ⟨W, footOf H, R, Γ.N⟩ o.dst (fun v H' => AM P Γ.N ops Hs (fun E' H' => AQ Γ Q .normal E' (H' ++ Hs)) r (putE o.dst v E) H')) []) NoQ := by
              unfold Oper.wp at hs ⊢
              revert hs
              cases (execOp A.eval o).run P W with
              | ok n w' =>
                cases n with
                | enter f args =>
                  intro hs
                  refine Calls.mono hs ?_
                  intro e w'' he
                  cases e with
                  | returned v => exact he
                  | outgrown => obtain ⟨a', w', hl⟩ := he; exact hl.elim
                  | _ => exact he.elim
                | _ => exact fun h => h
              | halt x w' => cases x <;> exact fun h => h
            refine Oper.wp_mono ?_ (wp_of_noQ (Oper.wp_put hs2))
            rintro A' W' ⟨hq, hA'⟩
            have hq' : QS ⟨W, footOf H, R, Γ.N⟩ o.dst (fun v H' => AM P Γ.N ops Hs (fun E' H' => AQ Γ Q .normal E' (H' ++ Hs)) r (putE o.dst v E) H') .normal A' W' := hq
            rcases hA' with ⟨u, rfl⟩ | hnd
            · exact hnext u W' hq'
            · exact absurd hq'.1 hnd
          · exact hl.elim
        · rename_i hw
          rw [if_neg hw] at hs
          exact hnext _ _ hs
  have hs : RelS Γ R (Hm ++ Hs) W.drew := (RelS.perm ⟨hs0.mods.drew, hs0.rlt, hs0.rsub, hs0.rnew, fun e he => HE.ok_mono (W := W) (W' := W.drew) (fun _ h => h) (fun _ _ => rfl) (Nat.le_refl _) (fun _ _ => rfl) (hs0.ok e he), hs0.own, hs0.disj⟩ hH.symm)
  have ha : RelA Γ.N R W.drew E a := ha0.mono (fun _ h => h) (fun _ _ => rfl)
  refine wp_region_any hm ?_
  rw [← hops]
  have hI : MI P Γ ops Hs (fun E' H' => AQ Γ Q .normal E' (H' ++ Hs)) ord (Array.replicate ops.size false) a W.drew [] ord [] E Hm R := by
    refine ⟨by simp, fun i o hl => ?_, fun i hi => ?_, rfl, fun i hi => (by cases hi), h, fun i hi => (by cases hi), hs, ha.defers, ha.size, fun t v ht _ => ha.slots t v ht⟩
    · exfalso
      by_cases h : i < ops.size <;> simp [Array.getD, h] at hl
    · have := hall i hi
      simp only [List.contains_eq_mem, decide_eq_true_eq] at this
      simp [Array.getD, hi, this]
  obtain ⟨pre', ms', Pd', E', hI2, hh2⟩ := hI.absorb hpairs
  exact main _ _ _ _ pre' ms' Pd' E' Hm R (by simp) hI2 hh2

end
end Go.Proofs.Ytochjihddnkhcaa.A

namespace Go.Proofs.Ytochjihddnkhcaa.By
open Go.RowKit L A Dk
set_option linter.unusedVariables false
set_option linter.unusedSimpArgs false
attribute [local irreducible] AW AQ AO

set_option maxHeartbeats 2000000 in
theorem spoilt_fn (b : List UInt8) (at' by' : Int) (hb : b.length ≤ 4294967296) (hw : -9223372036854775808 ≤ by' ∧ by' ≤ 9223372036854775807) :
    Sp Try.prog 33 [roB b, .val (.int .i64 at'), .val (.int .i64 by')] [] (Some1 (IsBytes (b.length + 1))) := by
  refine Sp.enter Try.func33 rfl _ Try.ntmps33 rfl (fun w0 R0 => ?_)
  refine AW.seq ?_
  refine AW.region ?_
  refine AO.op (O.assign rfl rfl) rfl rfl rfl ?_
  refine AO.nil ?_
  refine AQ.thenN ?_
  refine AW.seq ?_
  refine AW.region ?_
  refine AO.op (O.move rfl rfl) rfl rfl rfl ?_
  refine AO.opRow (O.appendNil rfl (by rfl) (by rfl) rfl rfl (by exact SrcA.ro TyD.ax (by (simp; done)) (Nat.le_of_ble_eq_true rfl)) (by (simp [AV.cells, AV.one, *]; done)) (by (unfold maxLen; omega)) (by omega)) rfl rfl rfl ?_
  intro V hV
  refine AO.op (O.assign rfl rfl) rfl rfl rfl ?_
  refine AO.nil ?_
  refine AQ.thenN ?_
  refine AW.seq ?_
  refine AW.seq ?_
  refine AW.region ?_
  refine AO.op (O.move rfl rfl) rfl rfl rfl ?_
  refine AO.op (O.lenRow rfl rfl (by repeat (exact List.Mem.head _))) rfl rfl rfl ?_
  refine AO.op (O.eql rfl rfl rfl (by rfl)) rfl rfl rfl ?_
  refine AO.nil ?_
  refine AQ.thenN ?_
  refine AW.split rfl (fun h => ?_) (fun h => ?_) <;> (try simp only [decide_eq_true_eq, decide_eq_false_iff_not, beq_iff_eq, beq_eq_false_iff_ne, bne_iff_ne, bne_eq_false_iff_eq, Bool.not_eq_true', Bool.not_eq_false', Bool.not_eq_true, Bool.not_eq_false, ne_eq, Int.not_lt, Int.not_le, Bool.and_eq_true, Bool.or_eq_true, Bool.or_eq_false_iff, Bool.and_eq_false_imp, strOf_toList, Decidable.not_not] at h)
  · skip
    refine AW.seq ?_
    refine AW.region ?_
    refine AO.op (O.move rfl rfl) rfl rfl rfl ?_
    refine AO.op (O.conv rfl rfl wU8any) rfl rfl rfl ?_
    refine AO.opB (O.buildSlice rfl rfl rfl (by rfl) (by rfl) (by rfl) (by rfl)) rfl rfl rfl ?_
    intro B
    refine AO.op (O.assign rfl rfl) rfl rfl rfl ?_
    refine AO.nil ?_
    refine AQ.thenN ?_
    refine AW.ret ?_
    refine AQ.thenR ?_
    refine AQ.g ?_
    refine G.freezeSl 0 6 rfl rfl ⟨Nat.le_refl _, by unfold maxLen; omega⟩ ?_
    refine AQ.u ?_
    refine AQ.g ?_
    refine G.unfull 6 rfl ?_
    refine AQ.u ?_
    refine AQ.ret1 rfl rfl ⟨_, List.nil_sublist _, .nil⟩ (⟨⟨[u8 by'], by simp, rfl⟩, rfl⟩)
  · skip
    have hlen : 0 < b.length := by omega
    have q1 := Int.emod_nonneg at' (show (b.length : Int) ≠ 0 by omega)
    have q2 := Int.emod_lt_of_pos at' (show (0 : Int) < b.length by omega)
    have q3 : by'.tdiv 256 = by'.tdiv 256 := rfl
    refine AW.skip ?_
    refine AQ.thenN ?_
    refine AW.seq ?_
    refine AW.region ?_
    refine AO.op (O.move rfl rfl) rfl rfl rfl ?_
    refine AO.op (O.move rfl rfl) rfl rfl rfl ?_
    refine AO.op (O.lenRow rfl rfl (by repeat (exact List.Mem.head _))) rfl rfl rfl ?_
    refine AO.op (O.call rfl Try.func15 rfl rfl rfl (Dk.mod_fn _ _ (by omega) (by omega))) rfl rfl rfl ?_
    refine AO.op (O.assign rfl rfl) rfl rfl rfl ?_
    refine AO.nil ?_
    refine AQ.thenN ?_
    refine AW.seq ?_
    refine AW.seq ?_
    refine AW.region ?_
    refine AO.op (O.move rfl rfl) rfl rfl rfl ?_
    refine AO.op (O.quo rfl rfl rfl (by omega) (by rfl)) rfl rfl rfl ?_
    refine AO.op (O.call rfl Try.func15 rfl rfl rfl (Dk.mod_fn _ _ (by omega) (by omega))) rfl rfl rfl ?_
    refine AO.nil ?_
    refine AQ.thenN ?_
    refine AW.block ?_
    refine AW.seq ?_
    refine AW.region ?_
    refine AO.op (O.eql rfl rfl rfl (by rfl)) rfl rfl rfl ?_
    refine AO.op (O.assign rfl rfl) rfl rfl rfl ?_
    refine AO.nil ?_
    refine AQ.thenN ?_
    obtain ⟨k, hk⟩ : ∃ k : Nat, at' % (b.length : Int) = (k : Int) := ⟨(at' % (b.length : Int)).toNat, by omega⟩
    rw [hk] at q1 q2 ⊢
    refine AW.g ?_
    refine G.openRow 0 rfl (by omega) (fun b' cap hc1 hc2 hxs hVe => ?_)
    refine AW.u ?_
    subst hVe
    have hc3 := hc2
    unfold maxLen at hc3
    refine AW.split rfl (fun h1 => ?_) (fun h1 => ?_) <;> (try simp only [decide_eq_true_eq, decide_eq_false_iff_not, beq_iff_eq, beq_eq_false_iff_ne, bne_iff_ne, bne_eq_false_iff_eq, Bool.not_eq_true', Bool.not_eq_false', Bool.not_eq_true, Bool.not_eq_false, ne_eq, Int.not_lt, Int.not_le, Bool.and_eq_true, Bool.or_eq_true, Bool.or_eq_false_iff, Bool.and_eq_false_imp, strOf_toList, Decidable.not_not] at h1)
    · skip
      refine AW.region ?_
      refine AO.op (O.move rfl rfl) rfl rfl rfl ?_
      refine AO.op (O.move rfl rfl) rfl rfl rfl ?_
      refine AO.op (O.move rfl rfl) rfl rfl rfl ?_
      refine AO.op (O.conv rfl rfl wU8any) rfl rfl rfl ?_
      refine AO.op (O.idxV rfl rfl rfl ⟨(by omega), (by omega)⟩) rfl rfl rfl ?_
      (refine AO.store (i := 0) rfl rfl rfl rfl rfl rfl (by rfl) (by rfl) (by exact Nat.ble_eq_true_of_le (by simp; omega)) (by rfl) (by (dsimp only [List.set, List.append, List.cons_append, List.nil_append, splice, ofConst, AV.cells, List.map, List.map_cons, List.map_nil, List.take, List.drop, Nat.zero_add, Nat.add_zero, Nat.reduceAdd, Nat.reduceMul, Nat.zero_mul, Value.cells, List.toList_toArray, zerosA, List.replicate, List.flatten, List.append_nil]; done)) ?_)
      refine AO.nil ?_
      refine AQ.blockN ?_
      refine AQ.thenN ?_
      refine AW.seq ?_
      refine AW.region ?_
      refine AO.op (O.move rfl rfl) rfl rfl rfl ?_
      refine AO.op (O.assign rfl rfl) rfl rfl rfl ?_
      refine AO.nil ?_
      refine AQ.thenN ?_
      refine AW.ret ?_
      refine AQ.g ?_
      refine G.closeRow (b := b') 0 rfl (by simp) rfl hc1 hc2 ?_
      refine AQ.u ?_
      refine AQ.g ?_
      refine G.freezeRow 0 rfl [6] (by repeat (first | exact frNil | refine frCons rfl ?_)) ?_
      refine AQ.u ?_
      dsimp only [List.map, List.eraseIdx, List.cons_append, List.nil_append]
      refine AQ.ret1 rfl rfl ⟨_, List.nil_sublist _, .nil⟩ (⟨⟨b.set k (u8 by'), by simp, roB_of (by simp) (by simp [bytesA, List.map_set])⟩, rfl⟩)
    · skip
      refine AW.seq ?_
      refine AW.region ?_
      refine AO.op (O.eql rfl rfl rfl (by rfl)) rfl rfl rfl ?_
      refine AO.op (O.assign rfl rfl) rfl rfl rfl ?_
      refine AO.nil ?_
      refine AQ.thenN ?_
      refine AW.split rfl (fun h2 => ?_) (fun h2 => ?_) <;> (try simp only [decide_eq_true_eq, decide_eq_false_iff_not, beq_iff_eq, beq_eq_false_iff_ne, bne_iff_ne, bne_eq_false_iff_eq, Bool.not_eq_true', Bool.not_eq_false', Bool.not_eq_true, Bool.not_eq_false, ne_eq, Int.not_lt, Int.not_le, Bool.and_eq_true, Bool.or_eq_true, Bool.or_eq_false_iff, Bool.and_eq_false_imp, strOf_toList, Decidable.not_not] at h2)
      · skip
        rcases Nat.lt_or_ge (k + 1) b.length with h3 | h3
        · skip
          refine AW.seq ?_
          refine AW.regionD 7 (by kernel_rfl) (by kernel_rfl) ?_
          simp only [List.take_succ_cons, List.take_zero, List.drop_succ_cons, List.drop_zero]
          refine FA.op (O.move rfl rfl) rfl rfl rfl rfl ?_
          refine FA.op (O.move rfl rfl) rfl rfl rfl rfl ?_
          refine FA.op (O.sliceV rfl rfl rfl rfl ⟨by omega, by omega, by omega⟩ (by omega)) rfl rfl rfl rfl ?_
          refine FA.op (O.move rfl rfl) rfl rfl rfl rfl ?_
          refine FA.op (O.move rfl rfl) rfl rfl rfl rfl ?_
          refine FA.op (O.add rfl rfl rfl (by exact wI64 (by omega))) rfl rfl rfl rfl ?_
          refine FA.op (O.sliceV rfl rfl rfl rfl ⟨by omega, by omega, by omega⟩ (by omega)) rfl rfl rfl rfl ?_
          refine FA.nil ?_
          simp only [chosen, List.nil_append, List.cons_append, List.append_nil]
          (refine AO.appendCut (i := 0) rfl rfl rfl rfl (by rfl) (by rfl) rfl rfl rfl (by omega) (by exact SrcA.blk TyD.ax (by repeat (exact List.Mem.head _)) (by (dsimp only [List.set, List.append, List.cons_append, List.nil_append, splice, ofConst, AV.cells, List.map, List.map_cons, List.map_nil, List.take, List.drop, Nat.zero_add, Nat.add_zero, Nat.reduceAdd, Nat.reduceMul, Nat.zero_mul, Value.cells, List.toList_toArray, zerosA, List.replicate, List.flatten, List.append_nil]; done)) (by (simp; done))) (by (simp [AV.cells, AV.one, *]; done)) (by (unfold maxLen; omega)) (by omega) ⟨by omega, by assumption⟩ (by (dsimp only [List.set, List.append, List.cons_append, List.nil_append, splice, ofConst, AV.cells, List.map, List.map_cons, List.map_nil, List.take, List.drop, Nat.zero_add, Nat.add_zero, Nat.reduceAdd, Nat.reduceMul, Nat.zero_mul, Value.cells, List.toList_toArray, zerosA, List.replicate, List.flatten, List.append_nil]; done)) (fun _ => by (dsimp only [List.set]; done)) ?_)
          intro V hV
          refine AO.op (O.assign rfl rfl) rfl rfl rfl ?_
          refine AO.nil ?_
          refine AQ.thenN ?_
          refine AW.ret ?_
          refine AQ.blockR ?_
          refine AQ.thenR ?_
          refine AQ.g ?_
          refine G.freezeRow 0 rfl [6] (by repeat (first | exact frNil | refine frCons rfl ?_)) ?_
          refine AQ.u ?_
          dsimp only [List.map, List.eraseIdx, List.cons_append, List.nil_append]
          refine AQ.ret1 rfl rfl ⟨_, List.nil_sublist _, .nil⟩ (⟨⟨b.take k ++ b.drop (k + 1), by simp <;> omega, roB_of (by simp <;> omega) (by simp; rw [List.take_of_length_le (by simp)])⟩, rfl⟩)
        · skip
          refine AW.seq ?_
          refine AW.regionD 7 (by kernel_rfl) (by kernel_rfl) ?_
          simp only [List.take_succ_cons, List.take_zero, List.drop_succ_cons, List.drop_zero]
          refine FA.op (O.move rfl rfl) rfl rfl rfl rfl ?_
          refine FA.op (O.move rfl rfl) rfl rfl rfl rfl ?_
          refine FA.op (O.sliceV rfl rfl rfl rfl ⟨by omega, by omega, by omega⟩ (by omega)) rfl rfl rfl rfl ?_
          refine FA.op (O.move rfl rfl) rfl rfl rfl rfl ?_
          refine FA.op (O.move rfl rfl) rfl rfl rfl rfl ?_
          refine FA.op (O.add rfl rfl rfl (by exact wI64 (by omega))) rfl rfl rfl rfl ?_
          refine FA.op (O.sliceV0 rfl rfl rfl rfl ⟨by omega, by omega, by omega⟩ (by omega) (by assumption)) rfl rfl rfl rfl ?_
          refine FA.nil ?_
          simp only [chosen, List.nil_append, List.cons_append, List.append_nil]
          (refine AO.appendCut (i := 0) rfl rfl rfl rfl (by rfl) (by rfl) rfl rfl rfl (by omega) (by exact SrcA.ro TyD.ax (by rfl) (Nat.le_of_ble_eq_true rfl)) (by rfl) (by (unfold maxLen; omega)) (by omega) ⟨by omega, by assumption⟩ (by (dsimp only [List.set, List.append, List.cons_append, List.nil_append, splice, ofConst, AV.cells, List.map, List.map_cons, List.map_nil, List.take, List.drop, Nat.zero_add, Nat.add_zero, Nat.reduceAdd, Nat.reduceMul, Nat.zero_mul, Value.cells, List.toList_toArray, zerosA, List.replicate, List.flatten, List.append_nil]; done)) (fun _ => by (dsimp only [List.set]; done)) ?_)
          intro V hV
          refine AO.op (O.assign rfl rfl) rfl rfl rfl ?_
          refine AO.nil ?_
          refine AQ.thenN ?_
          refine AW.ret ?_
          refine AQ.blockR ?_
          refine AQ.thenR ?_
          refine AQ.g ?_
          refine G.freezeRow 0 rfl [6] (by repeat (first | exact frNil | refine frCons rfl ?_)) ?_
          refine AQ.u ?_
          dsimp only [List.map, List.eraseIdx, List.cons_append, List.nil_append]
          refine AQ.ret1 rfl rfl ⟨_, List.nil_sublist _, .nil⟩ (⟨⟨b.take k, by simp <;> omega, roB_of (by simp <;> omega) (by simp)⟩, rfl⟩)
      · skip
        refine AW.g ?_
        refine G.closeRow (b := b') 0 rfl (by simp) rfl hc1 hc2 ?_
        refine AW.u ?_
        refine AW.g ?_
        refine G.freezeRow 0 rfl [7] (by repeat (first | exact frNil | refine frCons rfl ?_)) ?_
        refine AW.u ?_
        try dsimp only [List.map, List.eraseIdx, List.cons_append, List.nil_append]
        refine AW.seq ?_
        refine AW.region ?_
        refine AO.op (O.eql rfl rfl rfl (by rfl)) rfl rfl rfl ?_
        refine AO.op (O.assign rfl rfl) rfl rfl rfl ?_
        refine AO.nil ?_
        refine AQ.thenN ?_
        refine AW.split rfl (fun h4 => ?_) (fun h4 => ?_) <;> (try simp only [decide_eq_true_eq, decide_eq_false_iff_not, beq_iff_eq, beq_eq_false_iff_ne, bne_iff_ne, bne_eq_false_iff_eq, Bool.not_eq_true', Bool.not_eq_false', Bool.not_eq_true, Bool.not_eq_false, ne_eq, Int.not_lt, Int.not_le, Bool.and_eq_true, Bool.or_eq_true, Bool.or_eq_false_iff, Bool.and_eq_false_imp, strOf_toList, Decidable.not_not] at h4)
        · skip
          refine AW.seq ?_
          refine AW.regionM [(0, false), (1, false), (2, false), (4, false), (5, false), (6, false), (8, false), (9, false), (10, false), (3, true), (7, true), (11, true), (12, false)] (by kernel_rfl) (by kernel_rfl) (by exact splitNil) ?_
          dsimp only [List.eraseIdx]
          refine AM.op rfl (O.move rfl rfl) rfl rfl rfl ?_
          refine AM.op rfl (O.move rfl rfl) rfl rfl rfl ?_
          refine AM.op rfl (O.sliceToB rfl rfl rfl (by rfl) (by omega)) rfl rfl rfl ?_
          refine AM.op rfl (O.move rfl rfl) rfl rfl rfl ?_
          refine AM.op rfl (O.conv rfl rfl wU8any) rfl rfl rfl ?_
          refine AM.op rfl (OpW.frz (O.buildSlice rfl rfl rfl (by rfl) (by rfl) (by rfl) (by rfl)) (by (unfold maxLen; omega))) rfl rfl rfl ?_
          refine AM.op rfl (O.move rfl rfl) rfl rfl rfl ?_
          refine AM.op rfl (O.move rfl rfl) rfl rfl rfl ?_
          refine AM.op rfl (O.sliceFromB rfl rfl rfl (by rfl) (by omega)) rfl rfl rfl ?_
          refine AM.main _ rfl (fun w0 R0 => ?_)
          refine AO.opRow (O.appendNil rfl (by rfl) (by rfl) rfl rfl (by exact SrcA.ro TyD.ax (by (simp; done)) (Nat.le_of_ble_eq_true rfl)) (by (simp [AV.cells, AV.one, *]; done)) (by (unfold maxLen; simp only [List.length_take, List.length_drop, List.length_append, List.length_cons, List.length_nil, List.length_set, Nat.zero_add]; omega)) (by (simp only [List.length_take, List.length_drop, List.length_append, List.length_cons, List.length_nil, List.length_set, Nat.zero_add]; omega))) rfl rfl rfl ?_
          intro V hV
          refine AM.ok ?_
          dsimp only [putE]
          refine AM.main _ rfl (fun w0 R0 => ?_)
          (refine AO.append' (i := 0) rfl rfl rfl rfl (by rfl) (by rfl) rfl rfl rfl (by exact SrcA.ro TyD.ax (by rfl) (Nat.le_of_ble_eq_true rfl)) (by rfl) (by (unfold maxLen; simp only [List.length_take, List.length_drop, List.length_append, List.length_cons, List.length_nil, List.length_set, Nat.zero_add]; omega)) (by (simp only [List.length_take, List.length_drop, List.length_append, List.length_cons, List.length_nil, List.length_set, Nat.zero_add]; omega)) (by (dsimp only [List.set, List.append, List.cons_append, List.nil_append, splice, ofConst, AV.cells, List.map, List.map_cons, List.map_nil, List.take, List.drop, Nat.zero_add, Nat.add_zero, Nat.reduceAdd, Nat.reduceMul, Nat.zero_mul, Value.cells, List.toList_toArray, zerosA, List.replicate, List.flatten, List.append_nil]; done)) (fun _ => by (dsimp only [List.set]; done)) ?_)
          intro V hV
          refine AM.ok ?_
          dsimp only [putE]
          refine AM.main _ rfl (fun w0 R0 => ?_)
          (refine AO.append' (i := 0) rfl rfl rfl rfl (by rfl) (by rfl) rfl rfl rfl (by exact SrcA.ro TyD.ax (by (simp; done)) (Nat.le_of_ble_eq_true rfl)) (by (simp [AV.cells, AV.one, *]; done)) (by (unfold maxLen; simp only [List.length_take, List.length_drop, List.length_append, List.length_cons, List.length_nil, List.length_set, Nat.zero_add]; omega)) (by (simp only [List.length_take, List.length_drop, List.length_append, List.length_cons, List.length_nil, List.length_set, Nat.zero_add]; omega)) (by (dsimp only [List.set, List.append, List.cons_append, List.nil_append, splice, ofConst, AV.cells, List.map, List.map_cons, List.map_nil, List.take, List.drop, Nat.zero_add, Nat.add_zero, Nat.reduceAdd, Nat.reduceMul, Nat.zero_mul, Value.cells, List.toList_toArray, zerosA, List.replicate, List.flatten, List.append_nil]; done)) (fun _ => by (dsimp only [List.set]; done)) ?_)
          intro V hV
          refine AM.ok ?_
          dsimp only [putE]
          refine AM.op rfl (O.assign rfl rfl) rfl rfl rfl ?_
          refine AM.nil ?_
          dsimp only [List.cons_append, List.nil_append]
          refine AQ.thenN ?_
          refine AW.ret ?_
          refine AQ.blockR ?_
          refine AQ.thenR ?_
          refine AQ.g ?_
          refine G.freezeRow 0 rfl [6] (by repeat (first | exact frNil | refine frCons rfl ?_)) ?_
          refine AQ.u ?_
          try dsimp only [List.map, List.eraseIdx, List.cons_append, List.nil_append]
          refine AQ.ret1 rfl rfl ⟨_, List.nil_sublist _, .nil⟩ (⟨⟨b.take k ++ [u8 by'] ++ b.drop k, by simp <;> omega, roB_of (by simp <;> omega) (by simp <;> rfl)⟩, rfl⟩)
        · skip
          refine AW.seq ?_
          refine AW.region ?_
          refine AO.op (O.move rfl rfl) rfl rfl rfl ?_
          refine AO.op (O.move rfl rfl) rfl rfl rfl ?_
          refine AO.op (O.sliceToB rfl rfl rfl (by rfl) (by omega)) rfl rfl rfl ?_
          refine AO.op (O.assign rfl rfl) rfl rfl rfl ?_
          refine AO.nil ?_
          refine AQ.thenN ?_
          refine AW.ret ?_
          refine AQ.blockR ?_
          refine AQ.thenR ?_
          refine AQ.g ?_
          refine G.unfull 6 rfl ?_
          refine AQ.u ?_
          try dsimp only [List.map, List.eraseIdx, List.cons_append, List.nil_append]
          refine AQ.ret1 rfl rfl ⟨_, List.nil_sublist _, .nil⟩ (⟨⟨b.take k, by simp <;> omega, roB_of (by simp <;> omega) (by simp)⟩, rfl⟩)
end Go.Proofs.Ytochjihddnkhcaa.By

namespace Go.Proofs.Ytochjihddnkhcaa.A
open Go.RowKit L
set_option linter.unusedVariables false
set_option linter.unusedSimpArgs false
section
variable {P : Program} {E : Env} {H : List HE} {N : Nat} {o : Oper}
theorem O.makeB {T U k bs : Nat} {x y : Operand} {n : Nat} {kl kc : IntKind} {p q : Int} [hs : TyS P T U k bs (.int .u8 0)] (ho : o.op = .makeSlice T x y) (hx : ev E x = some (.val (.int kl p))) (hy : ev E y = some (.val (.int kc q))) (hp : p = (n : Int)) (hq : q = (n : Int)) (hn : n * bs ≤ 140737488355328) (hn2 : n ≤ maxLen) (hzk : Nat.beq (Value.int IntKind.u8 0).cells.size k = true) :
    OpW P N o E H (Is (roB (List.replicate n 0))) := by
  have := OpW.frz (O.makeSlice (P := P) (z := .int .u8 0) (N := N) (H := H) ho hx hy hp hq hn hn2 hzk) hn2
  rw [zerosU8] at this
  rwa [show roB (List.replicate n (0 : UInt8)) = .ro false n (bytesA (List.replicate n 0)) by unfold roB; rw [List.length_replicate]]
end
end Go.Proofs.Ytochjihddnkhcaa.A

namespace Go.Proofs.Ytochjihddnkhcaa.By
open Go.RowKit L A
set_option linter.unusedVariables false
set_option linter.unusedSimpArgs false
attribute [local irreducible] AW AQ AO
theorem getBs {bs : List (List UInt8)} {k : Nat} (h : k < bs.length) {j : Nat} (hj : j = k) : (bs.map roB)[j]? = some (roB (bs.getD k [])) := by subst hj; simp [h]
end Go.Proofs.Ytochjihddnkhcaa.By

namespace Go.Proofs.Ytochjihddnkhcaa.By
open Go.RowKit L A
set_option linter.unusedVariables false
set_option linter.unusedSimpArgs false
attribute [local irreducible] AW AQ AO
attribute [local simp] arB_len
set_option maxHeartbeats 4000000 in
theorem ropen_fn (key nonce aad cipher : List UInt8) (tag : Int) (ha : aad.length ≤ 1000000) (hp : cipher.length ≤ 1000000) : Sp Try.prog 35 [roB key, roB nonce, roB aad, roB cipher, .val (.int .i64 tag)] [] (Is (.tup [roB (openL key nonce aad cipher tag), .val (.int .i64 (openE key nonce aad cipher tag))])) := by
  refine Sp.enter Try.func35 rfl _ Try.ntmps35 rfl (fun w0 R0 => ?_)
  refine AW.seq ?_
  refine AW.region ?_
  refine AO.op (O.assign rfl rfl) rfl rfl rfl ?_
  refine AO.op (O.assign rfl rfl) rfl rfl rfl ?_
  refine AO.nil ?_
  refine AQ.thenN ?_
  refine AW.seq ?_
  refine AW.block ?_
  refine AW.seq ?_
  refine AW.region ?_
  refine AO.op (O.move rfl rfl) rfl rfl rfl ?_
  refine AO.op (O.move rfl rfl) rfl rfl rfl ?_
  refine AO.op (O.move rfl rfl) rfl rfl rfl ?_
  refine AO.op (O.call rfl Try.func27 rfl rfl rfl (rcvalid_fn key nonce _)) rfl rfl rfl ?_
  refine AO.op (O.not rfl rfl (by rfl)) rfl rfl rfl ?_
  refine AO.op (O.assign rfl rfl) rfl rfl rfl ?_
  refine AO.nil ?_
  refine AQ.thenN ?_
  refine AW.split rfl (fun h => ?_) (fun h => ?_) <;> (try simp only [decide_eq_true_eq, decide_eq_false_iff_not, beq_iff_eq, beq_eq_false_iff_ne, bne_iff_ne, bne_eq_false_iff_eq, Bool.not_eq_true', Bool.not_eq_false', Bool.not_eq_true, Bool.not_eq_false, ne_eq, Int.not_lt, Int.not_le, Bool.and_eq_true, Bool.or_eq_true, Bool.or_eq_false_iff, Bool.and_eq_false_imp, strOf_toList, Decidable.not_not] at h)
  · skip
    have hb : cvB key nonce tag = false := by simpa using h
    have e1 : openL key nonce aad cipher tag = [] := by simp [openL, hb]
    have e2 : openE key nonce aad cipher tag = 1 := by simp [openE, hb]
    rw [e1, e2]
    refine AW.seq ?_
    refine AW.region ?_
    refine AO.op (O.assign rfl rfl) rfl rfl rfl ?_
    refine AO.op (O.assign rfl rfl) rfl rfl rfl ?_
    refine AO.nil ?_
    refine AQ.thenN ?_
    refine AW.ret ?_
    refine AQ.blockR ?_
    refine AQ.thenR ?_
    refine FnQ.coe (AQ.ret2 rfl rfl rfl ⟨_, List.nil_sublist _, .nil⟩ ⟨rfl, rfl⟩) (Coe.tup (by (repeat (first | exact CoeL.nil | refine CoeL.cons Coe.rfl ?_ | refine CoeL.cons Coe.nil ?_)); done)) (⟨rfl, rfl⟩)
  · skip
    obtain ⟨hk, hn7, hn13, ht4, ht16, ht2⟩ := cvB_bd h
    refine AW.seq ?_
    refine AW.region ?_
    refine AO.op (O.move rfl rfl) rfl rfl rfl ?_
    refine AO.op (O.lenR rfl rfl) rfl rfl rfl ?_
    refine AO.op (O.gtr rfl rfl rfl (by rfl)) rfl rfl rfl ?_
    refine AO.op (O.move rfl rfl) rfl rfl rfl ?_
    refine AO.opG rfl rfl rfl (fun hp => O.move rfl rfl) ?_
    refine AO.opG rfl rfl rfl (fun hp => OpW.force 26 rfl (by exact hp) (O.lenR rfl rfl)) ?_
    refine AO.opG rfl rfl rfl (fun hp => O.move rfl rfl) ?_
    refine AO.opG rfl rfl rfl (fun hp => OpW.force 28 rfl (by exact hp) (O.add rfl rfl rfl (by exact wI64 (by omega)))) ?_
    refine AO.opG rfl rfl rfl (fun hp => OpW.force 27 rfl (by exact hp) (OpW.force 29 rfl (by exact hp) (O.gtr rfl rfl rfl (by rfl)))) ?_
    refine AO.op (O.pickOr rfl rfl rfl rfl (fun h => by exact congrArg (fun b => !b) h)) rfl rfl rfl ?_
    refine AO.op (O.assign rfl rfl) rfl rfl rfl ?_
    refine AO.nil ?_
    refine AQ.thenN ?_
    refine AW.split rfl (fun h2 => ?_) (fun h2 => ?_) <;> (try simp only [decide_eq_true_eq, decide_eq_false_iff_not, beq_iff_eq, beq_eq_false_iff_ne, bne_iff_ne, bne_eq_false_iff_eq, Bool.not_eq_true', Bool.not_eq_false', Bool.not_eq_true, Bool.not_eq_false, ne_eq, Int.not_lt, Int.not_le, Bool.and_eq_true, Bool.or_eq_true, Bool.or_eq_false_iff, Bool.and_eq_false_imp, strOf_toList, Decidable.not_not] at h2)
    · skip
      have hb : openOk aad cipher tag = false := by
        simp only [openOk, Bool.and_eq_false_iff, decide_eq_false_iff_not]
        omega
      have e1 : openL key nonce aad cipher tag = [] := by simp [openL, hb]
      have e2 : openE key nonce aad cipher tag = 8 := by simp [openE, h, hb]
      rw [e1, e2]
      refine AW.seq ?_
      refine AW.region ?_
      refine AO.op (O.assign rfl rfl) rfl rfl rfl ?_
      refine AO.op (O.assign rfl rfl) rfl rfl rfl ?_
      refine AO.nil ?_
      refine AQ.thenN ?_
      refine AW.ret ?_
      refine AQ.blockR ?_
      refine AQ.thenR ?_
      refine FnQ.coe (AQ.ret2 rfl rfl rfl ⟨_, List.nil_sublist _, .nil⟩ ⟨rfl, rfl⟩) (Coe.tup (by (repeat (first | exact CoeL.nil | refine CoeL.cons Coe.rfl ?_ | refine CoeL.cons Coe.nil ?_)); done)) (⟨rfl, rfl⟩)
    · skip
      have hb : openOk aad cipher tag = true := by
        simp only [openOk, Bool.and_eq_true, decide_eq_true_eq]
        omega
      refine AW.seq ?_
      refine AW.region ?_
      refine AO.op (O.move rfl rfl) rfl rfl rfl ?_
      refine AO.op (O.lenR rfl rfl) rfl rfl rfl ?_
      refine AO.op (O.move rfl rfl) rfl rfl rfl ?_
      refine AO.op (O.lss rfl rfl rfl (by rfl)) rfl rfl rfl ?_
      refine AO.op (O.assign rfl rfl) rfl rfl rfl ?_
      refine AO.nil ?_
      refine AQ.thenN ?_
      refine AW.split rfl (fun h3 => ?_) (fun h3 => ?_) <;> (try simp only [decide_eq_true_eq, decide_eq_false_iff_not, beq_iff_eq, beq_eq_false_iff_ne, bne_iff_ne, bne_eq_false_iff_eq, Bool.not_eq_true', Bool.not_eq_false', Bool.not_eq_true, Bool.not_eq_false, ne_eq, Int.not_lt, Int.not_le, Bool.and_eq_true, Bool.or_eq_true, Bool.or_eq_false_iff, Bool.and_eq_false_imp, strOf_toList, Decidable.not_not] at h3)
      · skip
        have e1 : openL key nonce aad cipher tag = [] := by simp [openL, show ¬ tag ≤ (cipher.length : Int) by omega]
        have e2 : openE key nonce aad cipher tag = 2 := by simp [openE, h, hb, show ¬ tag ≤ (cipher.length : Int) by omega]
        rw [e1, e2]
        refine AW.seq ?_
        refine AW.region ?_
        refine AO.op (O.assign rfl rfl) rfl rfl rfl ?_
        refine AO.op (O.assign rfl rfl) rfl rfl rfl ?_
        refine AO.nil ?_
        refine AQ.thenN ?_
        refine AW.ret ?_
        refine AQ.blockR ?_
        refine AQ.thenR ?_
        refine FnQ.coe (AQ.ret2 rfl rfl rfl ⟨_, List.nil_sublist _, .nil⟩ ⟨rfl, rfl⟩) (Coe.tup (by (repeat (first | exact CoeL.nil | refine CoeL.cons Coe.rfl ?_ | refine CoeL.cons Coe.nil ?_)); done)) (⟨rfl, rfl⟩)
      · skip
        have h3' : tag ≤ (cipher.length : Int) := by omega
        obtain ⟨n, hn⟩ : ∃ n : Nat, n = cipher.length - tag.toNat := ⟨_, rfl⟩
        have hn' : (cipher.length : Int) - tag = (n : Int) := by omega
        have hct : (cipher.take n).length = n := by rw [List.length_take]; omega
        have hopt : openT key nonce cipher tag = fnB n (strF (wK key) nonce (cipher.take n)) := by rw [openT, ← hn]
        have hst := rstr1_fn key nonce (cipher.take n) hk hn13 (by omega)
        obtain ⟨PT, hPT⟩ : ∃ PT, PT = openT key nonce cipher tag := ⟨_, rfl⟩
        have hPl : PT.length = n := by rw [hPT, hopt, fnB_len]
        have eP : arB (cipher.take n).length (strF (wS (kf key)) nonce (cipher.take n)) = bytesA PT := by rw [hPT, hopt, hct]; rfl
        rw [eP, hct] at hst
        have hst : Sp Try.prog 49 [roB key, roB nonce, roB (cipher.take n), .val (.int .i64 1)] [] (NewRow 5 1 PT.length (bytesA PT)) := by rw [hPl]; exact hst
        refine AW.skip ?_
        refine AQ.blockN ?_
        refine AQ.thenN ?_
        refine AW.seq ?_
        refine AW.region ?_
        refine AO.op (O.move rfl rfl) rfl rfl rfl ?_
        refine AO.op (O.move rfl rfl) rfl rfl rfl ?_
        refine AO.op (O.move rfl rfl) rfl rfl rfl ?_
        refine AO.op (O.move rfl rfl) rfl rfl rfl ?_
        refine AO.op (O.lenR rfl rfl) rfl rfl rfl ?_
        refine AO.op (O.move rfl rfl) rfl rfl rfl ?_
        refine AO.op (O.sub rfl rfl rfl (by exact wI64 (by omega))) rfl rfl rfl ?_
        refine AO.op (O.sliceToB (k := n) rfl rfl rfl (by omega) (by omega)) rfl rfl rfl ?_
        refine AO.opRow (O.call rfl Try.func49 rfl rfl rfl (hst)) rfl rfl rfl ?_
        intro V1 hV1
        refine AO.g ?_
        refine G.freezeRow 0 rfl [45] (by repeat (first | exact frNil | refine frCons rfl ?_)) ?_
        refine AO.u ?_
        dsimp only [List.map, List.eraseIdx, List.cons_append, List.nil_append]
        refine AO.op (O.assign rfl rfl) rfl rfl rfl ?_
        refine AO.nil ?_
        refine AQ.thenN ?_
        refine AW.seq ?_
        refine AW.region ?_
        refine AO.op (O.move rfl rfl) rfl rfl rfl ?_
        refine AO.op (O.move rfl rfl) rfl rfl rfl ?_
        refine AO.op (O.move rfl rfl) rfl rfl rfl ?_
        refine AO.op (O.move rfl rfl) rfl rfl rfl ?_
        refine AO.op (O.move rfl rfl) rfl rfl rfl ?_
        refine AO.op (O.call rfl Try.func32 rfl rfl rfl (rseal_fn key nonce aad PT tag (by omega) (by omega))) rfl rfl rfl ?_
        refine AO.op (O.move rfl rfl) rfl rfl rfl ?_
        refine AO.op (O.extract rfl rfl rfl) rfl rfl rfl ?_
        refine AO.op (O.extract rfl rfl rfl) rfl rfl rfl ?_
        refine AO.op (O.assign rfl rfl) rfl rfl rfl ?_
        refine AO.op (O.assign rfl rfl) rfl rfl rfl ?_
        refine AO.nil ?_
        refine AQ.thenN ?_
        refine AW.seq ?_
        refine AW.seq ?_
        refine AW.region ?_
        refine AO.op (O.move rfl rfl) rfl rfl rfl ?_
        refine AO.op (O.convS rfl rfl (by rfl)) rfl rfl rfl ?_
        refine AO.op (O.move rfl rfl) rfl rfl rfl ?_
        refine AO.op (O.convS rfl rfl (by rfl)) rfl rfl rfl ?_
        refine AO.op (O.neqS rfl rfl rfl (by rfl)) rfl rfl rfl ?_
        refine AO.nil ?_
        refine AQ.thenN ?_
        obtain ⟨SL, hSL⟩ : ∃ L, L = sealL key nonce aad PT tag := ⟨_, rfl⟩
        rw [← hSL]
        refine AW.split rfl (fun h4 => ?_) (fun h4 => ?_) <;> (try simp only [decide_eq_true_eq, decide_eq_false_iff_not, beq_iff_eq, beq_eq_false_iff_ne, bne_iff_ne, bne_eq_false_iff_eq, Bool.not_eq_true', Bool.not_eq_false', Bool.not_eq_true, Bool.not_eq_false, ne_eq, Int.not_lt, Int.not_le, Bool.and_eq_true, Bool.or_eq_true, Bool.or_eq_false_iff, Bool.and_eq_false_imp, strOf_toList, Decidable.not_not] at h4)
        · skip
          have hB : openB key nonce aad cipher tag = false := by rw [openB, ← hPT, ← hSL]; simpa using h4
          have e1 : openL key nonce aad cipher tag = [] := by simp [openL, hB]
          have e2 : openE key nonce aad cipher tag = 11 := by simp [openE, h, hb, h3', hB]
          rw [e1, e2]
          refine AW.seq ?_
          refine AW.region ?_
          refine AO.op (O.assign rfl rfl) rfl rfl rfl ?_
          refine AO.op (O.assign rfl rfl) rfl rfl rfl ?_
          refine AO.nil ?_
          refine AQ.thenN ?_
          refine AW.ret ?_
          refine AQ.thenR ?_
          refine FnQ.coe (AQ.ret2 rfl rfl rfl ⟨_, List.nil_sublist _, .nil⟩ ⟨rfl, rfl⟩) (Coe.tup (by (repeat (first | exact CoeL.nil | refine CoeL.cons Coe.rfl ?_ | refine CoeL.cons Coe.nil ?_)); done)) (⟨rfl, rfl⟩)
        · skip
          have hB : openB key nonce aad cipher tag = true := by rw [openB, ← hPT, ← hSL]; simpa using h4
          have e1 : openL key nonce aad cipher tag = PT := by simp [openL, h, hb, h3', hB, hPT]
          have e2 : openE key nonce aad cipher tag = 0 := by simp [openE, h, hb, h3', hB]
          rw [e1, e2]
          refine AW.skip ?_
          refine AQ.thenN ?_
          refine AW.seq ?_
          refine AW.region ?_
          refine AO.op (O.move rfl rfl) rfl rfl rfl ?_
          refine AO.op (O.assign rfl rfl) rfl rfl rfl ?_
          refine AO.op (O.assign rfl rfl) rfl rfl rfl ?_
          refine AO.nil ?_
          refine AQ.thenN ?_
          refine AW.ret ?_
          refine FnQ.coe (AQ.ret2 rfl rfl rfl ⟨_, List.nil_sublist _, .nil⟩ ⟨rfl, rfl⟩) (Coe.tup (by (repeat (first | exact CoeL.nil | refine CoeL.cons Coe.rfl ?_)); done)) (⟨rfl, rfl⟩)
end Go.Proofs.Ytochjihddnkhcaa.By

namespace Go.Proofs.Ytochjihddnkhcaa.By
open Go.RowKit L A
set_option linter.unusedVariables false
set_option linter.unusedSimpArgs false
attribute [local irreducible] AW AQ AO
attribute [local simp] arB_len
theorem i64_in7 {z : Int} (h : (Lit.int .i64 z).wf = true) : -9223372036854775808 ≤ z ∧ z ≤ 9223372036854775807 := by
  simpa [Lit.wf, IntKind.min, IntKind.max, IntKind.signed, IntKind.bits] using h
theorem seal_le2 (key nonce aad plain : List UInt8) (tag : Int) : (sealL key nonce aad plain tag).length ≤ plain.length + 16 := by
  unfold sealL
  split
  · rename_i h
    rw [Bool.and_eq_true] at h
    obtain ⟨_, _, _, _, _, _⟩ := cvB_bd h.1
    rw [List.length_append, fnB_len, fnB_len]; omega
  · simp
set_option maxHeartbeats 4000000 in
theorem lawOpens_fn (key nonce aad cipher : List UInt8) (tag n at' by' : Int) (htg : -9223372036854775808 ≤ tag ∧ tag ≤ 9223372036854775807) (hby : -9223372036854775808 ≤ by' ∧ by' ≤ 9223372036854775807) : Sp Try.prog 11 [roB key, roB nonce, roB aad, roB cipher, .val (.int .i64 tag), .val (.int .i64 n), .val (.int .i64 at'), .val (.int .i64 by')] [] (Is (.val (.bool true))) := by
  refine Sp.enter Try.func11 rfl _ Try.ntmps11 rfl (fun w0 R0 => ?_)
  refine AW.seq ?_
  refine AW.region ?_
  refine AO.op (O.assign rfl rfl) rfl rfl rfl ?_
  refine AO.nil ?_
  refine AQ.thenN ?_
  refine AW.seq ?_
  refine AW.seq ?_
  refine AW.region ?_
  refine AO.op (O.move rfl rfl) rfl rfl rfl ?_
  refine AO.op (O.call rfl Try.func21 rfl rfl rfl (short06_fn _)) rfl rfl rfl ?_
  refine AO.op (O.not rfl rfl (by rfl)) rfl rfl rfl ?_
  refine AO.op (O.move rfl rfl) rfl rfl rfl ?_
  refine AO.opG rfl rfl rfl (fun hp => O.move rfl rfl) ?_
  refine AO.opG rfl rfl rfl (fun hp => OpW.force 38 rfl (by exact hp) (O.call rfl Try.func21 rfl rfl rfl (short06_fn _))) ?_
  refine AO.opG rfl rfl rfl (fun hp => OpW.force 39 rfl (by exact hp) (O.not rfl rfl (by rfl))) ?_
  refine AO.op (O.pickOr rfl rfl rfl rfl (fun h => by exact congrArg (fun b => !b) h)) rfl rfl rfl ?_
  refine AO.nil ?_
  refine AQ.thenN ?_
  refine AW.split rfl (fun h => ?_) (fun h => ?_) <;> (try simp only [decide_eq_true_eq, decide_eq_false_iff_not, beq_iff_eq, beq_eq_false_iff_ne, bne_iff_ne, bne_eq_false_iff_eq, Bool.not_eq_true', Bool.not_eq_false', Bool.not_eq_true, Bool.not_eq_false, ne_eq, Int.not_lt, Int.not_le, Bool.and_eq_true, Bool.or_eq_true, Bool.or_eq_false_iff, Bool.and_eq_false_imp, strOf_toList, Decidable.not_not] at h)
  · skip
    refine AW.seq ?_
    refine AW.region ?_
    refine AO.op (O.call rfl Try.func30 rfl rfl rfl (awake07_fn)) rfl rfl rfl ?_
    refine AO.op (O.assign rfl rfl) rfl rfl rfl ?_
    refine AO.nil ?_
    refine AQ.thenN ?_
    refine AW.ret ?_
    refine AQ.thenR ?_
    refine AQ.ret1 rfl rfl ⟨_, List.nil_sublist _, .nil⟩ (⟨rfl, rfl⟩)
  · skip
    refine AW.skip ?_
    refine AQ.thenN ?_
    refine AW.seq ?_
    refine AW.region ?_
    refine AO.op (O.move rfl rfl) rfl rfl rfl ?_
    refine AO.opN (O.call rfl Try.func25 rfl rfl rfl (params_fn _)) rfl rfl rfl ?_
    rintro _ _ ⟨⟨K1, N1, t1, rfl, hcv1⟩, rfl⟩
    simp only [List.cons_append, List.nil_append]
    refine AO.op (O.move rfl rfl) rfl rfl rfl ?_
    refine AO.op (O.extract rfl rfl rfl) rfl rfl rfl ?_
    refine AO.op (O.extract rfl rfl rfl) rfl rfl rfl ?_
    refine AO.op (O.extract rfl rfl rfl) rfl rfl rfl ?_
    refine AO.op (O.assign rfl rfl) rfl rfl rfl ?_
    refine AO.op (O.assign rfl rfl) rfl rfl rfl ?_
    refine AO.op (O.assign rfl rfl) rfl rfl rfl ?_
    refine AO.nil ?_
    refine AQ.thenN ?_
    refine AW.seq ?_
    refine AW.region ?_
    refine AO.op (O.move rfl rfl) rfl rfl rfl ?_
    refine AO.op (O.move rfl rfl) rfl rfl rfl ?_
    refine AO.op (O.move rfl rfl) rfl rfl rfl ?_
    refine AO.op (O.move rfl rfl) rfl rfl rfl ?_
    refine AO.op (O.move rfl rfl) rfl rfl rfl ?_
    refine AO.op (O.call rfl Try.func32 rfl rfl rfl (rseal_fn _ _ _ _ _ (by omega) (by omega))) rfl rfl rfl ?_
    refine AO.op (O.move rfl rfl) rfl rfl rfl ?_
    refine AO.op (O.extract rfl rfl rfl) rfl rfl rfl ?_
    refine AO.op (O.extract rfl rfl rfl) rfl rfl rfl ?_
    refine AO.op (O.assign rfl rfl) rfl rfl rfl ?_
    refine AO.op (O.assign rfl rfl) rfl rfl rfl ?_
    refine AO.nil ?_
    refine AQ.thenN ?_
    refine AW.seq ?_
    refine AW.seq ?_
    refine AW.region ?_
    refine AO.op (O.move rfl rfl) rfl rfl rfl ?_
    refine AO.op (O.move rfl rfl) rfl rfl rfl ?_
    refine AO.op (O.move rfl rfl) rfl rfl rfl ?_
    refine AO.op (O.move rfl rfl) rfl rfl rfl ?_
    refine AO.op (O.move rfl rfl) rfl rfl rfl ?_
    refine AO.opN (O.call rfl Try.func33 rfl rfl rfl (spoilt_fn _ _ _ (Nat.le_trans (seal_le _ _ _ _ _ (by omega)) (by decide)) hby)) rfl rfl rfl ?_
    rintro _ _ ⟨⟨x2, hx2, rfl⟩, rfl⟩
    simp only [List.cons_append, List.nil_append]
    refine AO.op (O.move rfl rfl) rfl rfl rfl ?_
    refine AO.op (O.move rfl rfl) rfl rfl rfl ?_
    refine AO.op (O.call rfl Try.func15 rfl rfl rfl (Dk.mod_fn _ _ (by omega) (by omega))) rfl rfl rfl ?_
    refine AO.op (O.call rfl Try.func14 rfl rfl rfl (some_fn _ _ (by omega))) rfl rfl rfl ?_
    refine AO.opB (O.buildSliceF rfl rfl rfl (by rfl) (by rfl) (by rfl) (by rfl) (by rfl)) rfl rfl rfl ?_
    intro B3
    refine AO.g ?_
    (refine G.freezeSl 0 68 rfl rfl ⟨Nat.le_refl _, by unfold maxLen; omega⟩ ?_)
    refine G.unfull 68 rfl ?_
    refine AO.u ?_
    dsimp only [List.eraseIdx]
    refine AO.op (O.lenR rfl rfl) rfl rfl rfl ?_
    refine AO.op (O.move rfl rfl) rfl rfl rfl ?_
    refine AO.nil ?_
    refine AQ.thenN ?_
    refine AW.block ?_
    obtain ⟨_, _, _, ht4, ht16, _⟩ := cvB_bd hcv1
    have hsl := seal_le2 K1 N1 aad cipher t1
    obtain ⟨ks, hks⟩ : ∃ ks : List (List UInt8), ks = [cipher, sealL K1 N1 aad cipher t1, x2, someL n (by' % 20).toNat] := ⟨_, rfl⟩
    have hkl : ks.length = 4 := by rw [hks]; rfl
    have hka : ∀ k, k < 4 → (ks.getD k []).length ≤ 1000000 := fun k hk => by
      rw [hks]
      rcases (by omega : k = 0 ∨ k = 1 ∨ k = 2 ∨ k = 3) with rfl | rfl | rfl | rfl
      · show cipher.length ≤ 1000000; omega
      · show (sealL K1 N1 aad cipher t1).length ≤ 1000000; omega
      · show x2.length ≤ 1000000; omega
      · show (someL n (by' % 20).toNat).length ≤ 1000000; rw [someL_len]; omega
    refine AW.g ?_
    refine G.re 68 (.ro false 4 (ks.map roB)) (congrArg some (by rw [hks]; rfl)) ?_
    refine AW.u ?_
    refine AW.loopK [(0, _), (1, _), (2, _), (3, _), (4, _), (17, _), (18, _), (19, _), (68, _), (69, _)] (fun nn E H => ∃ (j : Nat), (j ≤ 4) ∧ nn = 4 - j ∧ E = [(70, .val (.int .i64 (j : Int)))] ∧ H = []) _ (⟨0, by omega, rfl, rfl, rfl⟩) (by repeat (first | exact envNil | refine envCons rfl ?_)) (by repeat (first | exact envNil | refine envCons rfl ?_)) (by repeat (exact subPnil)) ?_
    rintro nn E H ⟨j, hj, rfl, rfl, rfl⟩
    dsimp only [List.cons_append, List.nil_append]
    refine AW.seq ?_
    refine AW.region ?_
    refine AO.op (O.lss rfl rfl rfl (by rfl)) rfl rfl rfl ?_
    refine AO.nil ?_
    refine AQ.thenN ?_
    refine AW.seq ?_
    refine AW.split rfl (fun h2 => ?_) (fun h2 => ?_) <;> (try simp only [decide_eq_true_eq, decide_eq_false_iff_not, beq_iff_eq, beq_eq_false_iff_ne, bne_iff_ne, bne_eq_false_iff_eq, Bool.not_eq_true', Bool.not_eq_false', Bool.not_eq_true, Bool.not_eq_false, ne_eq, Int.not_lt, Int.not_le, Bool.and_eq_true, Bool.or_eq_true, Bool.or_eq_false_iff, Bool.and_eq_false_imp, strOf_toList, Decidable.not_not] at h2)
    · skip
      have hget := getBs (bs := ks) (k := j) (by omega) (j := Int.toNat (j : Int) * 1) (by omega)
      have hkj := hka j (by omega)
      obtain ⟨C, hC⟩ : ∃ C, C = ks.getD j [] := ⟨_, rfl⟩
      rw [← hC] at hget hkj
      refine AW.skip ?_
      refine AQ.thenN ?_
      refine AW.seq ?_
      refine AW.block ?_
      refine AW.seq ?_
      refine AW.region ?_
      refine AO.op (O.idxR rfl rfl rfl ⟨(by omega), (by omega)⟩) rfl rfl rfl ?_
      refine AO.op (O.loadR rfl rfl (by exact hget)) rfl rfl rfl ?_
      refine AO.op (O.assign rfl rfl) rfl rfl rfl ?_
      refine AO.nil ?_
      refine AQ.thenN ?_
      refine AW.seq ?_
      refine AW.region ?_
      refine AO.op (O.move rfl rfl) rfl rfl rfl ?_
      refine AO.op (O.move rfl rfl) rfl rfl rfl ?_
      refine AO.op (O.move rfl rfl) rfl rfl rfl ?_
      refine AO.op (O.move rfl rfl) rfl rfl rfl ?_
      refine AO.op (O.move rfl rfl) rfl rfl rfl ?_
      refine AO.op (O.call rfl Try.func34 rfl rfl rfl (open_fn _ _ aad C _ (by omega) (by omega))) rfl rfl rfl ?_
      refine AO.op (O.move rfl rfl) rfl rfl rfl ?_
      refine AO.op (O.extract rfl rfl rfl) rfl rfl rfl ?_
      refine AO.op (O.extract rfl rfl rfl) rfl rfl rfl ?_
      refine AO.op (O.assign rfl rfl) rfl rfl rfl ?_
      refine AO.op (O.assign rfl rfl) rfl rfl rfl ?_
      refine AO.nil ?_
      refine AQ.thenN ?_
      refine AW.seq ?_
      refine AW.region ?_
      refine AO.op (O.move rfl rfl) rfl rfl rfl ?_
      refine AO.op (O.move rfl rfl) rfl rfl rfl ?_
      refine AO.op (O.move rfl rfl) rfl rfl rfl ?_
      refine AO.op (O.move rfl rfl) rfl rfl rfl ?_
      refine AO.op (O.move rfl rfl) rfl rfl rfl ?_
      refine AO.op (O.call rfl Try.func35 rfl rfl rfl (ropen_fn _ _ aad C _ (by omega) (by omega))) rfl rfl rfl ?_
      refine AO.op (O.move rfl rfl) rfl rfl rfl ?_
      refine AO.op (O.extract rfl rfl rfl) rfl rfl rfl ?_
      refine AO.op (O.extract rfl rfl rfl) rfl rfl rfl ?_
      refine AO.op (O.assign rfl rfl) rfl rfl rfl ?_
      refine AO.op (O.assign rfl rfl) rfl rfl rfl ?_
      refine AO.nil ?_
      refine AQ.thenN ?_
      refine AW.seq ?_
      refine AW.region ?_
      refine AO.op (O.move rfl rfl) rfl rfl rfl ?_
      refine AO.op (O.convS rfl rfl (by rfl)) rfl rfl rfl ?_
      refine AO.op (O.move rfl rfl) rfl rfl rfl ?_
      refine AO.op (O.convS rfl rfl (by rfl)) rfl rfl rfl ?_
      refine AO.op (O.neqS rfl rfl rfl (by rfl)) rfl rfl rfl ?_
      refine AO.op (O.move rfl rfl) rfl rfl rfl ?_
      refine AO.opG rfl rfl rfl (fun hp => O.move rfl rfl) ?_
      refine AO.opG rfl rfl rfl (fun hp => O.move rfl rfl) ?_
      refine AO.opG rfl rfl rfl (fun hp => OpW.force 98 rfl (by exact hp) (OpW.force 99 rfl (by exact hp) (O.neq rfl rfl rfl (by exact bne_eq_false_iff_eq.2 (by omega))))) ?_
      refine AO.op (O.pickOr rfl rfl rfl rfl (fun h => by exact congrArg (fun b => !b) h)) rfl rfl rfl ?_
      refine AO.nil ?_
      refine AQ.thenN ?_
      refine AW.split rfl (fun h3 => ?_) (fun h3 => ?_)
      · skip
        simp at h3
      · skip
        refine AW.skip ?_
        refine AQ.blockN ?_
        refine AQ.thenN ?_
        refine AW.region ?_
        refine AO.op (O.add rfl rfl rfl (by exact wI64 (by omega))) rfl rfl rfl ?_
        refine AO.op (O.move rfl rfl) rfl rfl rfl ?_
        refine AO.nil ?_
        refine AQ.loopKN _ _ _ (by omega) (⟨j + 1, by omega, rfl, rfl, rfl⟩) (by repeat (first | exact envNil | refine envCons rfl ?_)) (by repeat (first | exact envNil | refine envCons rfl ?_)) (by repeat (exact subPnil))
    · skip
      obtain ⟨M, hM⟩ : ∃ M : Nat, M = (4096 + t1 + 1).toNat := ⟨_, rfl⟩
      have hM' : 4096 + t1 + 1 = (M : Int) := by omega
      have e8 : openE K1 N1 [] (List.replicate M 0) t1 = 8 := by
        have hb : openOk [] (List.replicate M 0) t1 = false := by
          simp only [openOk, Bool.and_eq_false_iff, decide_eq_false_iff_not, List.length_replicate]
          omega
        rw [openE, if_pos hcv1, hb]; rfl
      have hRl : (List.replicate M (0 : UInt8)).length ≤ 1000000 := by rw [List.length_replicate]; omega
      have hopen := open_fn K1 N1 [] (List.replicate M 0) t1 (by decide) hRl
      rw [e8] at hopen
      refine AW.exit ?_
      refine AQ.thenX ?_
      refine AQ.loopX ?_
      refine AQ.blockX rfl ?_
      refine AQ.thenN ?_
      refine AW.seq ?_
      refine AW.region ?_
      refine AO.op (O.move rfl rfl) rfl rfl rfl ?_
      refine AO.op (O.move rfl rfl) rfl rfl rfl ?_
      refine AO.op (O.move rfl rfl) rfl rfl rfl ?_
      refine AO.op (O.move rfl rfl) rfl rfl rfl ?_
      refine AO.op (O.move rfl rfl) rfl rfl rfl ?_
      refine AO.op (O.call rfl Try.func34 rfl rfl rfl (open_fn key nonce aad cipher tag (by omega) (by omega))) rfl rfl rfl ?_
      refine AO.op (O.move rfl rfl) rfl rfl rfl ?_
      refine AO.op (O.extract rfl rfl rfl) rfl rfl rfl ?_
      refine AO.op (O.extract rfl rfl rfl) rfl rfl rfl ?_
      refine AO.op (O.assign rfl rfl) rfl rfl rfl ?_
      refine AO.op (O.assign rfl rfl) rfl rfl rfl ?_
      refine AO.nil ?_
      refine AQ.thenN ?_
      refine AW.seq ?_
      refine AW.region ?_
      refine AO.op (O.move rfl rfl) rfl rfl rfl ?_
      refine AO.op (O.move rfl rfl) rfl rfl rfl ?_
      refine AO.op (O.move rfl rfl) rfl rfl rfl ?_
      refine AO.op (O.move rfl rfl) rfl rfl rfl ?_
      refine AO.op (O.move rfl rfl) rfl rfl rfl ?_
      refine AO.op (O.call rfl Try.func35 rfl rfl rfl (ropen_fn key nonce aad cipher tag (by omega) (by omega))) rfl rfl rfl ?_
      refine AO.op (O.move rfl rfl) rfl rfl rfl ?_
      refine AO.op (O.extract rfl rfl rfl) rfl rfl rfl ?_
      refine AO.op (O.extract rfl rfl rfl) rfl rfl rfl ?_
      refine AO.op (O.assign rfl rfl) rfl rfl rfl ?_
      refine AO.op (O.assign rfl rfl) rfl rfl rfl ?_
      refine AO.nil ?_
      refine AQ.thenN ?_
      refine AW.seq ?_
      refine AW.region ?_
      refine AO.op (O.move rfl rfl) rfl rfl rfl ?_
      refine AO.op (O.move rfl rfl) rfl rfl rfl ?_
      refine AO.op (O.move rfl rfl) rfl rfl rfl ?_
      refine AO.op (O.add rfl rfl rfl (by exact wI64 (by omega))) rfl rfl rfl ?_
      refine AO.op (O.add rfl rfl rfl (by exact wI64 (by omega))) rfl rfl rfl ?_
      refine AO.op (O.makeB rfl rfl rfl (by assumption) (by assumption) (by omega) (by (unfold maxLen; omega)) (by rfl)) rfl rfl rfl ?_
      refine AO.op (O.move rfl rfl) rfl rfl rfl ?_
      (refine AO.op (O.callC rfl Try.func34 rfl rfl rfl (hopen) (by (repeat (first | exact CoeL.nil | refine CoeL.cons Coe.rfl ?_ | refine CoeL.cons Coe.nil ?_)); done)) rfl rfl rfl ?_)
      refine AO.op (O.move rfl rfl) rfl rfl rfl ?_
      refine AO.op (O.extract rfl rfl rfl) rfl rfl rfl ?_
      refine AO.op (O.extract rfl rfl rfl) rfl rfl rfl ?_
      refine AO.op (O.assign rfl rfl) rfl rfl rfl ?_
      refine AO.op (O.assign rfl rfl) rfl rfl rfl ?_
      refine AO.nil ?_
      refine AQ.thenN ?_
      refine AW.seq ?_
      refine AW.region ?_
      refine AO.op (O.move rfl rfl) rfl rfl rfl ?_
      refine AO.op (O.convS rfl rfl (by rfl)) rfl rfl rfl ?_
      refine AO.op (O.move rfl rfl) rfl rfl rfl ?_
      refine AO.op (O.convS rfl rfl (by rfl)) rfl rfl rfl ?_
      refine AO.op (O.eqlS rfl rfl rfl (by rfl)) rfl rfl rfl ?_
      refine AO.op (O.move rfl rfl) rfl rfl rfl ?_
      refine AO.opG rfl rfl rfl (fun hp => O.move rfl rfl) ?_
      refine AO.opG rfl rfl rfl (fun hp => O.move rfl rfl) ?_
      refine AO.opG rfl rfl rfl (fun hp => OpW.force 138 rfl (by exact hp) (OpW.force 139 rfl (by exact hp) (O.eql rfl rfl rfl (by exact beq_iff_eq.2 (by omega))))) ?_
      refine AO.op (O.pickAnd rfl rfl rfl rfl (fun h => by exact h)) rfl rfl rfl ?_
      refine AO.op (O.move rfl rfl) rfl rfl rfl ?_
      refine AO.opG rfl rfl rfl (fun hp => O.move rfl rfl) ?_
      refine AO.opG rfl rfl rfl (fun hp => OpW.force 143 rfl (by exact hp) (O.eql rfl rfl rfl (by exact beq_iff_eq.2 (by omega)))) ?_
      refine AO.op (O.pickAnd rfl rfl rfl rfl (fun h => by exact h)) rfl rfl rfl ?_
      refine AO.op (O.move rfl rfl) rfl rfl rfl ?_
      refine AO.opG rfl rfl rfl (fun hp => O.call rfl Try.func30 rfl rfl rfl (awake07_fn)) ?_
      refine AO.op (O.pickAnd rfl rfl rfl rfl (fun h => by exact h)) rfl rfl rfl ?_
      refine AO.op (O.assign rfl rfl) rfl rfl rfl ?_
      refine AO.nil ?_
      refine AQ.thenN ?_
      refine AW.ret ?_
      refine AQ.g ?_
      refine G.re 16 (.val (.bool true)) (congrArg some (by simp)) ?_
      refine AQ.u ?_
      refine AQ.ret1 rfl rfl ⟨_, List.nil_sublist _, .nil⟩ (⟨rfl, rfl⟩)
end Go.Proofs.Ytochjihddnkhcaa.By
