/-
  Texts laid together (part 2): what the statement's walk and plain law need. No condition.
-/
import Derived.Test.YtoonnnifelnaiaaGreatDoorZ1
namespace Go.Proofs.YtoonnnifelnaiaaGreatDoor.A
open Go.RowKit L
set_option linter.unusedVariables false
set_option maxRecDepth 20000
set_option linter.unusedSimpArgs false

section
variable {P : Program} {ops : Array Oper} {N : Nat}

/-- The state on the way. -/
structure MJ (P : Program) (Γ : Cx) (ops : Array Oper) (Hs : List HE) (K : Env → List HE → Prop) (ord : List (Nat × Bool)) (late : List Nat) (listed : Array Bool) (A : Act) (W : World) (pre ms : List (Nat × Bool)) (Pd : List Nat) (E : Env) (H : List HE) (R : Nat → Prop) : Prop where
 size : listed.size = ops.size
 closed : Closed ops listed
 part : ∀ i, i < ops.size → (listed.getD i false = false ↔ i ∈ Pd ∨ i ∈ ms.map Prod.fst ∨ i ∈ late)
 ord : ord = pre ++ ms
 pdp : ∀ i ∈ Pd, (i, false) ∈ pre
 am : AM P Γ.N ops Hs K ms E H
 pend : ∀ i ∈ Pd, ∃ o d v, ops[i]? = some o ∧ o.dst = some d ∧ d < Γ.N ∧ look E d = some v ∧ OpF P Γ.N ops o (rst E (o.looksAt ops)) Hs (Is v)
 rels : RelS Γ R (H ++ Hs) W
 defers : A.defers = []
 tmps : A.tmps.size = Γ.N
 act : ∀ t v, look E t = some v → (∀ i ∈ Pd, ∀ o, ops[i]? = some o → o.dst ≠ some t) → RelV R W v (A.eval (.tmp t))

variable {Γ : Cx} {Hs : List HE} {K : Env → List HE → Prop} {ord : List (Nat × Bool)} {late : List Nat}

/-- What reads is pending as soon as it may run. -/
theorem MJ.absorb {listed : Array Bool} {A : Act} {W : World} {R : Nat → Prop} (hok : ordPairs ops (ancs ops.toList []) ord = true) : ∀ (ms pre : List (Nat × Bool)) (Pd : List Nat) (E : Env) (H : List HE), MJ P Γ ops Hs K ord late listed A W pre ms Pd E H R →
  ∃ pre' ms' Pd' E', MJ P Γ ops Hs K ord late listed A W pre' ms' Pd' E' H R ∧ (ms' = [] ∨ ∃ m r, ms' = (m, true) :: r)
 | [], pre, Pd, E, H, h => ⟨pre, [], Pd, E, h, .inl rfl⟩
 | (m, true) :: r, pre, Pd, E, H, h => ⟨pre, _, Pd, E, h, .inr ⟨m, r, rfl⟩⟩
 | (j, false) :: r, pre, Pd, E, H, h => by
  obtain ⟨o, d, v, ho, hd, hN, hop, ham⟩ := h.am
  have hord := h.ord
  have hq := ordPairs_app (pre := pre) (r := (j, false) :: r) (by rw [← hord]; exact hok)
  have hself : d ∉ o.looksAt ops := by
   have := hq.1
   rw [ordPairs] at this
   simp only [Bool.and_eq_true, ho, hd, Bool.false_or] at this
   simpa using this.1.1
  have hp : ∀ i ∈ Pd, ∀ oi, ops[i]? = some oi → d ∉ oi.looksAt ops ∧ oi.dst ≠ some d := fun i hi oi hoi => by
   have := pairOk (hq.2 _ (h.pdp i hi) (j, false) (List.mem_cons_self ..)) hoi ho
   obtain ⟨d', h1, h2, h3⟩ := this.flt rfl
   rw [hd] at h1
   cases h1
   exact ⟨h2, h3⟩
  refine MJ.absorb hok r (pre ++ [(j, false)]) (j :: Pd) ((d, v) :: E) H ⟨h.size, h.closed, fun i hi => ?_, by rw [hord]; simp, fun i hi => ?_, ham, fun i hi => ?_, h.rels, h.defers, h.tmps, fun t x ht hpd => ?_⟩
  ·rw [h.part i hi]
   simp only [List.map_cons, List.mem_cons]
   constructor
   ·rintro (h | (h | h) | h)
    ·exact .inl (.inr h)
    ·exact .inl (.inl h)
    ·exact .inr (.inl h)
    ·exact .inr (.inr h)
   ·rintro ((h | h) | h | h)
    ·exact .inr (.inl (.inl h))
    ·exact .inl h
    ·exact .inr (.inl (.inr h))
    ·exact .inr (.inr h)
  ·rcases List.mem_cons.1 hi with rfl | hi
   ·simp
   ·exact List.mem_append_left _ (h.pdp i hi)
  ·rcases List.mem_cons.1 hi with rfl | hi
   ·exact ⟨o, d, v, ho, hd, hN, look_here, by rw [rst_skip hself]; exact hop⟩
   ·obtain ⟨oi, di, vi, h1, h2, h3, h4, h5⟩ := h.pend i hi
    obtain ⟨h6, h7⟩ := hp i hi oi h1
    refine ⟨oi, di, vi, h1, h2, h3, ?_, by rw [rst_skip h6]; exact h5⟩
    rw [look_skip (fun e => h7 (by rw [h2, e]))]; exact h4
  ·have hne : d ≠ t := fun e => hpd j (List.mem_cons_self ..) o ho (by rw [hd, e])
   rw [look_skip hne] at ht
   exact h.act t x ht fun i hi => hpd i (List.mem_cons_of_mem _ hi)

theorem MJ.reads {listed : Array Bool} {A : Act} {W : World} {R : Nat → Prop} {pre ms : List (Nat × Bool)} {Pd : List Nat} {E : Env} {H : List HE} (hok : ordPairs ops (ancs ops.toList []) ord = true) (h : MJ P Γ ops Hs K ord late listed A W pre ms Pd E H R)
  {i : Nat} {b : Bool} {o : Oper} (ho : ops[i]? = some o) (hdeps : ∀ e ∈ o.after, Region.binds .any e = true → listed.getD e.on false = true) (hi : (i, b) ∈ pre ∧ i ∈ Pd ∧ b = false ∨ ∃ r, ms = (i, b) :: r) : RelA Γ.N R W (rst E (o.looksAt ops)) A := by
 refine ⟨h.defers, h.tmps, fun t v ht => ?_⟩
 obtain ⟨htl, ht⟩ := look_rst ht
 refine h.act t v ht fun k hk ok hok' hdk => ?_
 have hkp := h.pdp k hk
 have hkf : listed.getD k false = false := (h.part k (Array.getElem?_eq_some_iff.1 hok').1).2 (.inl hk)
 have direct : ordPair ops (ancs ops.toList []) k false i b = true → False := fun hp => by
  obtain ⟨e, he, hb, hon⟩ := (pairOk hp hok' ho).reads t hdk htl
  have := hdeps e he hb
  rw [hon, hkf] at this; cases this
 rcases hi with ⟨hip, hiP, rfl⟩ | ⟨r, hms⟩
 ·-- both ahead
  obtain ⟨p1, p2, hp12⟩ := List.append_of_mem hkp
  have hord := h.ord
  rw [hp12, List.append_assoc] at hord
  rw [hp12] at hip
  rcases List.mem_append.1 hip with hip | hip
  ·-- i ahead of k
   have hq := ordPairs_app (pre := p1) (by rw [← hord]; exact hok)
   have := pairOk (hq.2 _ hip (k, false) (List.mem_cons_self ..)) ho hok'
   obtain ⟨d', h1, h2, -⟩ := this.flt rfl
   rw [hdk] at h1; cases h1
   exact h2 htl
  ·rcases List.mem_cons.1 hip with he | hip
   ·cases he
    -- itself
    have hq := (ordPairs_app (pre := p1) (by rw [← hord]; exact hok)).1
    rw [List.cons_append, ordPairs] at hq
    simp only [Bool.and_eq_true] at hq
    obtain rfl : o = ok := by rw [ho] at hok'; exact Option.some.inj hok'
    have := hq.1.1
    rw [ho] at this
    simp only [hdk, Bool.false_or] at this
    simp at this
    exact this htl
   ·rw [show p1 ++ ((k, false) :: p2 ++ ms) = (p1 ++ [(k, false)]) ++ (p2 ++ ms) by simp] at hord
    have hq := ordPairs_app (pre := p1 ++ [(k, false)]) (by rw [← hord]; exact hok)
    exact direct (hq.2 (k, false) (by simp) (i, false) (List.mem_append_left _ hip))
 ·have hq := ordPairs_app (pre := pre) (r := ms) (by rw [← h.ord]; exact hok)
  exact direct (hq.2 _ hkp (i, b) (by rw [hms]; exact List.mem_cons_self ..))

/-- One stage. -/
theorem MJ.stage {Q : Exit → Act → World → Prop} (hback : ∀ i o, ops[i]? = some o → ∀ e ∈ o.after, Region.binds .any e = true → e.on < i) (hpairs : ordPairs ops (ancs ops.toList []) ord = true) (hlt : ∀ q ∈ ord, q.1 < ops.size)
  (hlate : ∀ j ∈ late, ∀ q ∈ ord, q.1 ∈ (ancs ops.toList []).getD j [])
  (hfin : ∀ (listed : Array Bool) (A : Act) (W : World) (E : Env) (H : List HE) (R : Nat → Prop), listed.size = ops.size → Closed ops listed → (∀ i, i < ops.size → (listed.getD i false = false ↔ i ∈ late)) → RelS Γ R (H ++ Hs) W → RelA Γ.N R W E A → K E H → wpAny P .any ops Q (listed.toList.count false) listed A W) :
  ∀ (fuel : Nat) (listed : Array Bool) (A : Act) (W : World) (pre ms : List (Nat × Bool)) (Pd : List Nat) (E : Env) (H : List HE) (R : Nat → Prop), fuel = listed.toList.count false →
   MJ P Γ ops Hs K ord late listed A W pre ms Pd E H R → (ms = [] ∨ ∃ m r, ms = (m, true) :: r) → wpAny P .any ops Q fuel listed A W := by
 intro fuel
 induction fuel with
 | zero =>
  intro listed A W pre ms Pd E H R hc hI hhd
  have hlist : ∀ i, i < ops.size → listed.getD i false = true := by
   intro i hi
   have hi' : i < listed.size := by rw [hI.size]; exact hi
   cases hb : listed.getD i false with
   | true => rfl
   | false =>
    exfalso
    have hm : false ∈ listed.toList := by
     rw [← hb]; simp [Array.getD, hi']
    have := List.count_pos_iff.2 hm
    omega
  have hms : ms = [] := by
   rcases hhd with h | ⟨m, r, h⟩
   ·exact h
   ·have h1 := hlt (m, true) (by rw [hI.ord, h]; simp)
    have := (hI.part m h1).2 (.inr (.inl (by rw [h]; simp)))
    rw [hlist m h1] at this; cases this
  have hPd : Pd = [] := by
   rw [List.eq_nil_iff_forall_not_mem]
   intro i hi
   have h1 := hlt (i, false) (by rw [hI.ord]; exact List.mem_append_left _ (hI.pdp i hi))
   have := (hI.part i h1).2 (.inl hi)
   rw [hlist i h1] at this; cases this
  subst hms
  subst hPd
  rw [hc]
  exact hfin listed A W E H R hI.size hI.closed (fun i hi => by rw [hI.part i hi]; simp) hI.rels ⟨hI.defers, hI.tmps, fun t v ht => hI.act t v ht fun i hi => (by cases hi)⟩ hI.am
 | succ fuel ih =>
  intro listed A W pre ms Pd E H R hc hI hhd
  by_cases hemp : ms = [] ∧ Pd = []
  ·obtain ⟨rfl, rfl⟩ := hemp
   rw [hc]
   exact hfin listed A W E H R hI.size hI.closed (fun i hi => by rw [hI.part i hi]; simp) hI.rels ⟨hI.defers, hI.tmps, fun t v ht => hI.act t v ht fun i hi => (by cases hi)⟩ hI.am
  have hun : ∃ q ∈ ord, listed.getD q.1 false = false := by
   rcases hhd with h | ⟨m, r, h⟩
   ·cases Pd with
    | nil => exact absurd ⟨h, rfl⟩ hemp
    | cons p Pd =>
     have h1 : (p, false) ∈ ord := by rw [hI.ord]; exact List.mem_append_left _ (hI.pdp p (List.mem_cons_self ..))
     exact ⟨_, h1, (hI.part p (hlt _ h1)).2 (.inl (List.mem_cons_self ..))⟩
   ·have h1 : (m, true) ∈ ord := by rw [hI.ord, h]; simp
    exact ⟨_, h1, (hI.part m (hlt _ h1)).2 (.inr (.inl (by rw [h]; simp)))⟩
  have hne : ∃ i, i ∈ Region.ready .any ops listed := by
   have hex : ∃ i, i < ops.size ∧ listed.getD i false = false := by
    have hpos : 0 < listed.toList.count false := by omega
    obtain ⟨i, hi, hf⟩ := List.getElem_of_mem (List.count_pos_iff.1 hpos)
    have hi' : i < listed.size := by simpa using hi
    exact ⟨i, by rw [← hI.size]; exact hi', by simpa [Array.getD, hi'] using hf⟩
   obtain ⟨i, ⟨hi, hf⟩, hmin⟩ : ∃ i, (i < ops.size ∧ listed.getD i false = false) ∧ ∀ j, j < i → ¬ (j < ops.size ∧ listed.getD j false = false) := by
    obtain ⟨i, h⟩ := hex
    exact least ⟨i, h⟩
   have hio : ops[i]? = some ops[i] := by simp [hi]
   refine ⟨i, mem_ready.2 ⟨by rw [getD_tf (by rw [hI.size]; exact hi)]; exact hf, _, hio, fun e he hb => ?_⟩⟩
   have := hback i _ hio e he hb
   cases hb2 : listed.getD e.on false with
   | true => rfl
   | false => exact absurd ⟨by omega, hb2⟩ (hmin e.on this)
  refine ⟨fun e => (by obtain ⟨i, hi⟩ := hne; rw [e] at hi; cases hi), fun i hi => ?_⟩
  obtain ⟨h0, o, ho, hdeps⟩ := mem_ready.1 hi
  have hio : i < ops.size := (Array.getElem?_eq_some_iff.1 ho).1
  have hf : listed.getD i false = false := by rw [← getD_tf (by rw [hI.size]; exact hio)]; exact h0
  have hil : i < listed.size := by rw [hI.size]; exact hio
  have hanc : ∀ j, j ∈ (ancs ops.toList []).getD i [] → listed.getD j false = true := fun j hj => anc_listed hI.closed hback i o ho hdeps j hj
  have hcl := closed_set hI.closed ho hil hdeps
  have hcnt : fuel = (listed.setIfInBounds i true).toList.count false := by
   have hcs := count_set_true listed.toList i (by simpa using hil) (by simpa [Array.getD, hil] using hf)
   simp only [Array.toList_setIfInBounds]
   omega
  have hgd : ∀ k, k ≠ i → (listed.setIfInBounds i true).getD k false = listed.getD k false := fun k hk => getD_set_ne false (Ne.symm hk)
  have hgi : (listed.setIfInBounds i true).getD i false = true := by simp [Array.getD, hil]
  have hsz : (listed.setIfInBounds i true).size = ops.size := by simpa using hI.size
  have hnl : i ∉ late := fun h => by
   obtain ⟨q, hq, hqf⟩ := hun
   have := hanc q.1 (hlate i h q hq)
   rw [hqf] at this; cases this
  rcases (hI.part i hio).1 hf with hPd | hms | hlt'
  ·-- one that reads
   obtain ⟨o', d, v, ho', hd, hN, hlk, hop⟩ := hI.pend i hPd
   obtain rfl : o = o' := by rw [ho] at ho'; exact Option.some.inj ho'
   have hA := hI.reads hpairs ho hdeps (b := false) (.inl ⟨hI.pdp i hPd, hPd, rfl⟩)
   have hs := hop R A W hI.rels.rlt (fun e he => hI.rels.ok e (List.mem_append_right _ he)) (fun e he b hb => (hI.rels.own e (List.mem_append_right _ he) b hb).2) hA
   have hnext : ∀ u W', (∃ v' Hn R', Is v v' Hn ∧ Post1 R W v' Hn u W' R') → wpAny P .any ops Q fuel (listed.setIfInBounds i true) (A.put o.dst u) W' := by
    rintro u W' ⟨v', Hn, R', ⟨rfl, rfl⟩, hp⟩
    have hnm : i ∉ ms.map Prod.fst := fun hm => by
     obtain ⟨⟨j, c⟩, hq, hji⟩ := List.mem_map.1 hm
     have hq2 := (ordPairs_app (pre := pre) (r := ms) (by rw [← hI.ord]; exact hpairs)).2 _ (hI.pdp i hPd) _ hq
     simp only at hji
     subst hji
     exact (pairOk hq2 ho ho).ne rfl
    refine ih _ _ _ pre ms (Pd.filter (· ≠ i)) E H R' hcnt ⟨hsz, hcl, fun k hk => ?_, hI.ord, fun k hk => hI.pdp k (List.mem_filter.1 hk).1, hI.am, fun k hk => hI.pend k (List.mem_filter.1 hk).1, by simpa using hI.rels.step hp, ?_, ?_, fun t x ht hpd => ?_⟩ hhd
    ·by_cases hki : k = i
     ·subst hki
      rw [hgi]
      simp [hnm, hnl]
     ·rw [hgd k hki, hI.part k hk]
      simp [hki]
    ·rw [hd]; exact hI.defers
    ·rw [hd]; simp [Act.put, hI.tmps]
    ·rw [hd]
     by_cases hdt : d = t
     ·subst hdt
      rw [hlk] at ht
      cases ht
      rw [eval_put_same (by rw [hI.tmps]; exact hN)]; exact hp.val
     ·rw [eval_put_other hdt]
      refine (hI.act t x ht fun k hk ok hok hdk => ?_).mono hp.sub (extSame hp.ext hI.rels.rlt)
      by_cases hki : k = i
      ·subst hki
       rw [ho] at hok
       cases hok
       rw [hd] at hdk
       cases hdk
       exact hdt rfl
      ·exact hpd k (List.mem_filter.2 ⟨hk, by simpa using hki⟩) ok hok hdk
   unfold wpOp
   rw [ho]
   unfold FStep at hs
   show if Region.wanted o (yielded ops A.tmps) = true then _ else _
   split
   ·rename_i hw
    rw [if_pos hw] at hs
    refine .inl (Oper.wp_mono ?_ (wp_of_noQ hs))
    rintro A' W' ⟨u, rfl, hp⟩
    exact hnext u W' hp
   ·rename_i hw
    rw [if_neg hw] at hs
    exact hnext _ _ hs
  ·-- the next that writes
   rcases hhd with rfl | ⟨m, r, rfl⟩
   ·cases hms
   have hmlt : m < ops.size := by have := hlt (m, true) (by rw [hI.ord]; simp); exact this
   have hmf : listed.getD m false = false := (hI.part m hmlt).2 (.inr (.inl (by simp)))
   have him : i = m := by
    rcases List.mem_cons.1 hms with h | h
    ·exact h
    ·exfalso
     obtain ⟨⟨j, c⟩, hq, hji⟩ := List.mem_map.1 h
     simp only at hji
     subst hji
     have h9 := (ordPairs_app (pre := pre ++ [(m, true)]) (r := r) (by have := hI.ord; rw [List.append_assoc, List.singleton_append, ← this]; exact hpairs)).2 (m, true) (by simp) _ hq
     have hom : ops[m]? = some ops[m] := by simp [hmlt]
     have := hanc m ((pairOk h9 hom ho).main rfl)
     rw [hmf] at this; cases this
   subst him
   obtain ⟨o', ho', hAO⟩ := hI.am
   obtain rfl : o = o' := by rw [ho] at ho'; exact Option.some.inj ho'
   have hA := hI.reads hpairs ho hdeps (b := true) (.inr ⟨r, rfl⟩)
   have hs := hAO W R R A W ⟨Mods.refl _ _, hI.rels.rlt, fun _ h => h, fun _ h => .inl h, fun e he => hI.rels.ok e (List.mem_append_left _ he), fun e he b hb => ⟨.inr ⟨e, he, hb⟩, (hI.rels.own e (List.mem_append_left _ he) b hb).2⟩, (List.pairwise_append.1 hI.rels.disj).1⟩ hA
   have hnext : ∀ u W', QS ⟨W, footOf H, R, Γ.N⟩ o.dst (fun v H' => AM P Γ.N ops Hs K r (putE o.dst v E) H') .normal (A.put o.dst u) W' → wpAny P .any ops Q fuel (listed.setIfInBounds i true) (A.put o.dst u) W' := by
    rintro u W' ⟨hdf, v, H', R', ham, hsr, hvr⟩
    obtain ⟨hrel, hRW⟩ := RelS.part hI.rels hsr
    have hpd : ∀ k ∈ Pd, ∀ ok, ops[k]? = some ok → ∀ d, o.dst = some d → d ∉ ok.looksAt ops ∧ ok.dst ≠ some d := fun k hk ok hok d hd => by
     have h9 := (ordPairs_app (pre := pre) (r := (i, true) :: r) (by rw [← hI.ord]; exact hpairs)).2 _ (hI.pdp k hk) (i, true) (List.mem_cons_self ..)
     have hkf : listed.getD k false = false := (hI.part k (Array.getElem?_eq_some_iff.1 hok).1).2 (.inl hk)
     have hno : k ∉ (ancs ops.toList []).getD i [] := fun hm => by
      have := hanc k hm
      rw [hkf] at this; cases this
     exact ⟨fun hm => hno ((pairOk h9 hok ho).mn rfl d hd (.inl hm)), fun he => hno ((pairOk h9 hok ho).mn rfl d hd (.inr he))⟩
    have hnr : i ∉ r.map Prod.fst := fun hm => by
     obtain ⟨⟨j, c⟩, hq, hji⟩ := List.mem_map.1 hm
     have h9 := (ordPairs_app (pre := pre ++ [(i, true)]) (r := r) (by have := hI.ord; rw [List.append_assoc, List.singleton_append, ← this]; exact hpairs)).2 (i, true) (by simp) _ hq
     simp only at hji
     subst hji
     exact (pairOk h9 ho ho).ne rfl
    have hnp : i ∉ Pd := fun hk => by
     have h9 := (ordPairs_app (pre := pre) (r := (i, true) :: r) (by rw [← hI.ord]; exact hpairs)).2 _ (hI.pdp i hk) (i, true) (List.mem_cons_self ..)
     exact (pairOk h9 ho ho).ne rfl
    have hI' : MJ P Γ ops Hs K ord late (listed.setIfInBounds i true) (A.put o.dst u) W' (pre ++ [(i, true)]) r Pd (putE o.dst v E) H' R' := by
     refine ⟨hsz, hcl, fun k hk => ?_, by rw [hI.ord]; simp, fun k hk => List.mem_append_left _ (hI.pdp k hk), ham, fun k hk => ?_, hrel, hdf, ?_, fun t x ht hp => ?_⟩
     ·by_cases hki : k = i
      ·subst hki
       rw [hgi]
       simp [hnr, hnp, hnl]
      ·rw [hgd k hki, hI.part k hk]
       simp [hki]
     ·obtain ⟨ok, dk, vk, h1, h2, h3, h4, h5⟩ := hI.pend k hk
      refine ⟨ok, dk, vk, h1, h2, h3, ?_, ?_⟩
      ·cases hd : o.dst with
       | none => exact h4
       | some d => rw [putE, look_skip (fun e => (hpd k hk ok h1 d hd).2 (by rw [h2, e]))]; exact h4
      ·cases hd : o.dst with
       | none => exact h5
       | some d => rw [putE, rst_skip (hpd k hk ok h1 d hd).1]; exact h5
     ·cases hd : o.dst <;> simp [Act.put, hI.tmps]
     ·cases hd : o.dst with
      | none =>
       rw [hd] at ht
       exact (hI.act t x ht hp).mono hsr.rsub hRW
      | some d =>
       rw [hd, putE] at ht
       by_cases hdt : d = t
       ·subst hdt
        rw [look_here] at ht
        cases ht
        have := hvr d hd
        rwa [hd] at this
       ·rw [look_skip hdt] at ht
        rw [eval_put_other hdt]
        exact (hI.act t x ht hp).mono hsr.rsub hRW
    obtain ⟨pre', ms', Pd', E', hI2, hh2⟩ := hI'.absorb hpairs
    exact ih _ _ _ pre' ms' Pd' E' H' R' hcnt hI2 hh2
   unfold wpOp
   rw [ho]
   unfold wpList at hs
   show if Region.wanted o (yielded ops A.tmps) = true then _ else _
   split
   ·rename_i hw
    rw [if_pos hw] at hs
    refine .inl ?_
    rcases hs with hs | ⟨-, a', w', hl⟩
    ·have hs2 : o.wp P A W (wpList P ops (QS ⟨W, footOf H, R, Γ.N⟩ o.dst (fun v H' => AM P Γ.N ops Hs K r (putE o.dst v E) H')) []) NoQ := by
      unfold Oper.wp at hs ⊢
      revert hs
      cases (execOp A.eval o).run P W with
      | ok n w' =>
       cases n with
       | enter f args =>
        intro hs
        refine Calls.mono hs ?_
        intro e w'' he
        cases e with
        | returned v => exact he
        | outgrown => obtain ⟨a', w', hl⟩ := he; exact hl.elim
        | _ => exact he.elim
       | _ => exact fun h => h
      | halt x w' => cases x <;> exact fun h => h
     refine Oper.wp_mono ?_ (wp_of_noQ (Oper.wp_put hs2))
     rintro A' W' ⟨hq, hA'⟩
     have hq' : QS ⟨W, footOf H, R, Γ.N⟩ o.dst (fun v H' => AM P Γ.N ops Hs K r (putE o.dst v E) H') .normal A' W' := hq
     rcases hA' with ⟨u, rfl⟩ | hnd
     ·exact hnext u W' hq'
     ·exact absurd hq'.1 hnd
    ·exact hl.elim
   ·rename_i hw
    rw [if_neg hw] at hs
    exact hnext _ _ hs
  ·exact absurd hlt' hnl

/-- Operations in stages. -/
def AMS (P : Program) (N : Nat) (ops : Array Oper) (K : Env → List HE → Prop) : List (List (Nat × Bool)) → Env → List HE → Prop
 | [], E, H => K E H
 | ord :: r, E, H => ∃ Hm Hs, SplitH E H Hm Hs ∧ AM P N ops Hs (fun E' H' => AMS P N ops K r E' (H' ++ Hs)) ord E Hm
theorem AMS.go {ord : List (Nat × Bool)} {r : List (List (Nat × Bool))} {E : Env} {H Hm Hs : List HE} (hH : SplitH E H Hm Hs) (h : AM P N ops Hs (fun E' H' => AMS P N ops K r E' (H' ++ Hs)) ord E Hm) : AMS P N ops K (ord :: r) E H := ⟨Hm, Hs, hH, h⟩
theorem AMS.nil {E : Env} {H : List HE} (h : K E H) : AMS P N ops K [] E H := h
def stagesOk (ops : Array Oper) (an : List (List Nat)) : List (List (Nat × Bool)) → Bool
 | [] => true
 | ord :: r => ordPairs ops an ord && (ord.all fun q => decide (q.1 < ops.size)) && (r.all fun s => s.all fun j => ord.all fun q => (an.getD j.1 []).contains q.1) && stagesOk ops an r
def stagesAll (ops : Array Oper) (os : List (List (Nat × Bool))) : Bool :=
 ((List.range ops.size).all fun i => os.any fun ord => ord.any fun q => q.1 == i) &&
 ((List.range ops.size).all fun i => (ops[i]?).all fun o => o.after.all fun e => !Region.binds .any e || decide (e.on < i)) && stagesOk ops (ancs ops.toList []) os
theorem AMS.run {Q : Exit → Act → World → Prop} (hback : ∀ i o, ops[i]? = some o → ∀ e ∈ o.after, Region.binds .any e = true → e.on < i) : ∀ (os : List (List (Nat × Bool))), stagesOk ops (ancs ops.toList []) os = true →
  ∀ (listed : Array Bool) (A : Act) (W : World) (E : Env) (H : List HE) (R : Nat → Prop), listed.size = ops.size → Closed ops listed → (∀ i, i < ops.size → (listed.getD i false = false ↔ i ∈ (os.flatten).map Prod.fst)) → RelS Γ R H W → RelA Γ.N R W E A →
   AMS P Γ.N ops (fun E' H' => AQ Γ Q .normal E' H') os E H → wpAny P .any ops Q (listed.toList.count false) listed A W
 | [], _, listed, A, W, E, H, R, hsz, hcl, hpt, hs, ha, h => by
  have hlist : ∀ i, i < ops.size → listed.getD i false = true := by
   intro i hi
   cases hb : listed.getD i false with
   | true => rfl
   | false => have := (hpt i hi).1 hb; cases this
  have h0 : listed.toList.count false = 0 := by
   rw [List.count_eq_zero]
   intro hm
   obtain ⟨i, hi, hf⟩ := List.getElem_of_mem hm
   have hi' : i < listed.size := by simpa using hi
   have := hlist i (by rw [← hsz]; exact hi')
   rw [show listed.getD i false = listed[i] by simp [Array.getD, hi']] at this
   rw [show listed.toList[i] = listed[i] by simp, this] at hf
   cases hf
  rw [h0]
  refine ⟨?_, h R A W hs ha⟩
  rw [List.eq_nil_iff_forall_not_mem]
  intro i hi
  obtain ⟨h0, o, ho, _⟩ := mem_ready.1 hi
  have hi' : i < ops.size := (Array.getElem?_eq_some_iff.1 ho).1
  have := hlist i hi'
  rw [← getD_tf (by rw [hsz]; exact hi')] at this
  rw [this] at h0; cases h0
 | ord :: os, hok, listed, A, W, E, H, R, hsz, hcl, hpt, hs, ha, h => by
  rw [stagesOk] at hok
  simp only [Bool.and_eq_true, List.all_eq_true, decide_eq_true_eq, List.contains_eq_mem] at hok
  obtain ⟨⟨⟨hp, hlt⟩, hlate⟩, hrest⟩ := hok
  obtain ⟨Hm, Hs, hH, hAM⟩ := h
  have hI : MJ P Γ ops Hs (fun E' H' => AMS P Γ.N ops (fun E' H' => AQ Γ Q .normal E' H') os E' (H' ++ Hs)) ord (os.flatten.map Prod.fst) listed A W [] ord [] E Hm R := by
   refine ⟨hsz, hcl, fun i hi => ?_, rfl, fun i hi => (by cases hi), hAM, fun i hi => (by cases hi), hs.perm hH.symm, ha.defers, ha.size, fun t v ht _ => ha.slots t v ht⟩
   rw [hpt i hi]
   simp
  obtain ⟨pre', ms', Pd', E', hI2, hh2⟩ := hI.absorb hp
  refine MJ.stage hback hp hlt (fun j hj q hq => ?_) (fun listed A W E H R h1 h2 h3 h4 h5 h6 => AMS.run hback os hrest listed A W E _ R h1 h2 h3 h4 h5 h6) _ listed A W pre' ms' Pd' E' Hm R rfl hI2 hh2
  obtain ⟨x, hx, rfl⟩ := List.mem_map.1 hj
  obtain ⟨s, hs1, hs2⟩ := List.mem_flatten.1 hx
  exact hlate s hs1 x hs2 q hq
theorem AW.regionS {Q : Exit → Act → World → Prop} {E : Env} {H : List HE} {id : Nat} {l : List Oper} (os : List (List (Nat × Bool))) (hm : P.follows .mixedOrders = true) (hok : stagesAll l.toArray os = true)
  (h : AMS P Γ.N l.toArray (fun E' H' => AQ Γ Q .normal E' H') os E H) : AW Γ P Q (.region id l.toArray true) E H := fun R a W hs0 ha0 => by
 obtain ⟨ops, hops⟩ : ∃ ops, ops = l.toArray := ⟨_, rfl⟩
 rw [← hops] at h hok
 simp only [stagesAll, Bool.and_eq_true, List.all_eq_true, List.mem_range] at hok
 obtain ⟨⟨hall, hbk⟩, hst⟩ := hok
 have hback : ∀ i o, ops[i]? = some o → ∀ e ∈ o.after, Region.binds .any e = true → e.on < i := fun i o ho e he hb => by
  have hi : i < ops.size := (Array.getElem?_eq_some_iff.1 ho).1
  have := hbk i hi
  rw [ho] at this
  simp only [Option.all_some] at this
  have := Array.all_eq_true_iff_forall_mem.1 this e he
  simpa [hb] using this
 have hs : RelS Γ R H W.drew := ⟨hs0.mods.drew, hs0.rlt, hs0.rsub, hs0.rnew, fun e he => HE.ok_mono (W := W) (W' := W.drew) (fun _ h => h) (fun _ _ => rfl) (Nat.le_refl _) (fun _ _ => rfl) (hs0.ok e he), hs0.own, hs0.disj⟩
 have ha : RelA Γ.N R W.drew E a := ha0.mono (fun _ h => h) (fun _ _ => rfl)
 refine wp_region_any hm ?_
 rw [← hops]
 have hc : (Array.replicate ops.size false).toList.count false = ops.size := by simp
 have := AMS.run (Γ := Γ) hback os hst (Array.replicate ops.size false) a W.drew E H R (by simp) (fun i o hl => by
  exfalso
  by_cases h : i < ops.size <;> simp [Array.getD, h] at hl) (fun i hi => by
   have := hall i hi
   simp only [List.any_eq_true, beq_iff_eq] at this
   obtain ⟨ord, ho, q, hq, hqi⟩ := this
   constructor
   ·intro _
    exact List.mem_map.2 ⟨q, List.mem_flatten.2 ⟨ord, ho, hq⟩, hqi⟩
   ·intro _
    simp [Array.getD, hi]) hs ha h
 rw [hc] at this
 exact this
end
end Go.Proofs.YtoonnnifelnaiaaGreatDoor.A

namespace Go.Proofs.YtoonnnifelnaiaaGreatDoor.A
open Go.RowKit L
set_option linter.unusedVariables false
set_option maxRecDepth 20000
set_option linter.unusedSimpArgs false
section
variable {Γ : Cx} {P : Program} {ops : Array Oper} {Q : Exit → Act → World → Prop} {E : Env} {H : List HE} {o : Oper} {rest : List Oper}
end
end Go.Proofs.YtoonnnifelnaiaaGreatDoor.A

namespace Go.Proofs.YtoonnnifelnaiaaGreatDoor.A
open Go.RowKit L
set_option linter.unusedVariables false
set_option maxRecDepth 20000
set_option linter.unusedSimpArgs false
section
variable {P : Program} {E : Env} {H : List HE} {N : Nat} {o : Oper}
end
end Go.Proofs.YtoonnnifelnaiaaGreatDoor.A

namespace Go.Proofs.YtoonnnifelnaiaaGreatDoor.A
open Go.RowKit L
set_option linter.unusedVariables false
set_option maxRecDepth 20000
set_option linter.unusedSimpArgs false
section
variable {Γ : Cx} {P : Program} {Q : Exit → Act → World → Prop} {E : Env} {H : List HE} {N : Nat} {o : Oper} {ops : Array Oper} {rest : List Oper}
theorem CoeL.app {a b x y : List AV} (h : CoeL a b) (k : CoeL x y) : CoeL (a ++ x) (b ++ y) := fun R W us hu => by
 induction a generalizing b us with
 | nil =>
  have hb : b = [] := by
   have := (h R W [] RelL.nil).1
   exact List.eq_nil_of_length_eq_zero this.symm
  subst hb
  exact k R W us hu
 | cons u a ih =>
  have h1 : us.take (a.length + 1) ++ us.drop (a.length + 1) = us := List.take_append_drop ..
  have h2 := hu.take (a.length + 1)
  have h3 := hu.drop (a.length + 1)
  rw [show ((u :: a) ++ x).take (a.length + 1) = u :: a by simp] at h2
  rw [show ((u :: a) ++ x).drop (a.length + 1) = x by simp] at h3
  rw [← h1]
  exact RelL.app (h R W _ h2) (k R W _ h3)
theorem Coe.ro {full : Bool} {n : Nat} {xs ys : List AV} (h : CoeL xs ys) : Coe (.ro full n xs) (.ro full n ys) := fun R W u hu => by
 cases hu with
 | emp _ a cap h1 h2 =>
  have hy : ys = [] := List.eq_nil_of_length_eq_zero (h R W [] RelL.nil).1.symm
  subst hy
  exact .emp _ a cap h1 h2
 | ro _ _ _ b off cap us hb hc hr h1 h2 h3 =>
  have hl : RelL R W xs ((List.range xs.length).map us) := ⟨by simp, fun j hj => by simpa [hj] using hr j hj⟩
  have hk := h R W _ hl
  have he : ys.length = xs.length := by have := hk.1; simpa using this.symm
  refine .ro _ _ _ b off cap us hb (fun j hj => hc j (by omega)) (fun j hj => ?_) h1 h2 h3
  have := hk.2 j hj
  rw [he] at hj
  simpa [hj] using this
/-- A literal whose elements are all given, in order. -/
def seqA (k : Nat) : Nat → List (Nat × AV) → Option (List AV)
 | _, [] => some []
 | i, (j, v) :: r => bif Nat.beq j i && Nat.beq v.cells.length k then (match seqA k (i + 1) r with | some ys => some (v.cells ++ ys) | none => none) else none
theorem splice_pre : ∀ (cs pre zs : List AV), cs.length ≤ zs.length → splice (pre ++ zs) pre.length cs = pre ++ cs ++ zs.drop cs.length
 | [], pre, zs, h => by simp [splice]
 | c :: cs, pre, [], h => by simp at h
 | c :: cs, pre, z :: zs, h => by
  rw [splice, show (pre ++ z :: zs).set pre.length c = (pre ++ [c]) ++ zs by simp, show pre.length + 1 = (pre ++ [c]).length by simp, splice_pre cs (pre ++ [c]) zs (by simpa using h)]
  simp
theorem fill_seq {k : Nat} : ∀ (ps : List (Nat × AV)) (i : Nat) (pre zs ys : List AV), seqA k i ps = some ys → pre.length = i * k → zs.length = ps.length * k → fillA (fun i => some (i * k, k)) (pre ++ zs) ps = some (pre ++ ys)
 | [], i, pre, zs, ys, h, h1, h2 => by
  have : zs = [] := List.eq_nil_of_length_eq_zero (by simpa using h2)
  subst this
  cases h
  rfl
 | (j, v) :: r, i, pre, zs, ys, h, h1, h2 => by
  rw [seqA] at h
  cases hc : (Nat.beq j i && Nat.beq v.cells.length k) with
  | false => rw [hc] at h; cases h
  | true =>
   rw [hc] at h
   simp only [Bool.and_eq_true] at hc
   have hj := Nat.eq_of_beq_eq_true hc.1
   have hk := Nat.eq_of_beq_eq_true hc.2
   subst hj
   cases hr : seqA k (j + 1) r with
   | none => rw [hr] at h; cases h
   | some ys' =>
    rw [hr] at h
    cases h
    have hz : v.cells.length ≤ zs.length := by rw [h2, hk, List.length_cons, Nat.add_mul]; omega
    unfold fillA
    simp only
    have hb : (Nat.beq v.cells.length k && Nat.ble (j * k + v.cells.length) (pre ++ zs).length) = true := by
     simp only [Bool.and_eq_true]
     exact ⟨hc.2, Nat.ble_eq_true_of_le (by rw [List.length_append, h1]; omega)⟩
    rw [hb]
    show fillA _ (splice (pre ++ zs) (j * k) v.cells) r = _
    rw [← h1, splice_pre _ _ _ hz]
    have := fill_seq r (j + 1) (pre ++ v.cells) (zs.drop v.cells.length) ys' hr (by rw [List.length_append, h1, hk, Nat.add_mul]; omega) (by rw [List.length_drop, h2, hk, List.length_cons, Nat.add_mul]; omega)
    rw [this, List.append_assoc]
theorem O.buildSliceF {T U k bs n : Nat} {z : Value} {parts : List (Nat × Operand)} {ps : List (Nat × AV)} {ys : List AV} [hs : TyS P T U k bs z] (ho : o.op = .buildSlice T n parts.toArray) (hx : evp E parts = some ps) (h1 : vals1 ps = true)
  (hsm : Nat.ble (n * k) 16777216 = true) (hpos : Nat.ble 1 (n * k) = true) (hzk : Nat.beq z.cells.size k = true) (hn : Nat.beq ps.length n = true) (hy : seqA k 0 ps = some ys) : OpW P N o E H (NewBlk (fun b => .val (.slice (some ⟨b, 0, none⟩) n n)) U (n * k) ys) :=
 O.buildSlice ho hx h1 hsm hpos hzk (by
  have := fill_seq ps 0 [] (zerosA n z) ys hy (by simp) (by
   have hzl : (z.cells.toList.map AV.val).length = k := by rw [List.length_map, Array.length_toList]; exact Nat.eq_of_beq_eq_true hzk
   rw [Nat.eq_of_beq_eq_true hn, zerosA, List.length_flatten, List.map_replicate, hzl]; simp)
  simpa using this)
/-! ### Several results, each in a temporary or in a box -/
def resOne (tmps : Array Value) : ResultVar → Sem Value
 | .tmp t => pure (tmps.getD t undef)
 | .cell a t => do loadVar t (← asAddr (tmps.getD a undef))
def ResAt (Γ : Cx) (P : Program) (E : Env) (H : List HE) (x : ResultVar) (q : AV) : Prop :=
 ∀ R a W, RelS Γ R H W → RelA Γ.N R W E a → ∃ u, (resOne a.tmps x).run P W = .ok u W ∧ RelV R W q u
theorem ResAt.tmp {t : Nat} {q : AV} (h : look E t = some q) : ResAt Γ P E H (.tmp t) q := fun R a W hs ha => ⟨a.eval (.tmp t), rfl, ha.slots t q h⟩
theorem ResAt.cell {t T k b T' room : Nat} {xs ys : List AV} [hg : TyG P T true k] (ht : look E t = some (.val (.pointer (some ⟨b, 0, none⟩)))) (hm : HE.blk b T' room xs ∈ H) (hv : xs.take k = ys) (hk : ys.length = k) : ResAt Γ P E H (.cell t T) (.agg ys) := fun R a W hs ha => by
 obtain ⟨us, cs, hb, hsz, hts, hrl⟩ := hs.ok _ hm
 have hrl := hrl.take k
 rw [hv] at hrl
 have hl := run_loadVarK hg W b 0 (us.take k) (by rw [hrl.1, hk]) (fun i u hi => by
  rw [cell_of_row W b (0 + i) cs T' (0, 0) hb]
  rw [List.getElem?_take] at hi
  split at hi
  ·rw [← hts, List.getElem?_take] at hi
   split at hi
   ·simpa using hi
   ·cases hi
  ·cases hi)
 have hv' := (ha.slots t _ ht).val_inv
 refine ⟨.agg (us.take k).toArray, ?_, hrl.toAgg⟩
 have : a.tmps.getD t undef = .pointer (some ⟨b, 0, none⟩) := hv'
 simp [resOne, this, asAddr, hl]
end
end Go.Proofs.YtoonnnifelnaiaaGreatDoor.A

namespace Go.Proofs.YtoonnnifelnaiaaGreatDoor.A
open Go.RowKit L
set_option linter.unusedVariables false
set_option maxRecDepth 20000
set_option linter.unusedSimpArgs false

section
variable {P : Program} {ops : Array Oper} {N : Nat}
/-- Operations in this order: true those that write, false those that read. -/
structure Al where
 (i d T room : Nat) (xs : List AV)
def Al.ok (P : Program) (N : Nat) (ops : Array Oper) (al : Al) : Prop :=
 ∃ o, ops[al.i]? = some o ∧ o.dst = some al.d ∧ al.d < N ∧ o.guard = none ∧ OpW P N o [] [] (NewBlk (fun b => .val (.pointer (some ⟨b, 0, none⟩))) al.T al.room al.xs)
def Al.he (al : Al) (b : Nat) : HE := .blk b al.T al.room al.xs
def Al.hs (al : Al) : Option Nat → List HE
 | none => []
 | some b => [al.he b]
def AN (P : Program) (N : Nat) (ops : Array Oper) (al : Al) (Hs : List HE) (K : Env → List HE → Prop) : List (Nat × Bool) → Env → List HE → Prop
 | [], E, H => K E H
 | (i, true) :: r, E, H => if i = al.i then (∀ b, AN P N ops al Hs K r ((al.d, .val (.pointer (some ⟨b, 0, none⟩))) :: E) (al.he b :: H)) else ∃ o, ops[i]? = some o ∧ ∀ w0 R0, AO ⟨w0, footOf H, R0, N⟩ P ops (QS ⟨w0, footOf H, R0, N⟩ o.dst (fun v H' => AN P N ops al Hs K r (putE o.dst v E) H')) [o] (rst E (o.looksAt ops)) H
 | (i, false) :: r, E, H => ∃ o d v, ops[i]? = some o ∧ o.dst = some d ∧ d < N ∧ OpF P N ops o (rst E (o.looksAt ops)) Hs (Is v) ∧ AN P N ops al Hs K r ((d, v) :: E) H

/-- One operation ahead of another. -/
def ordPairA (ops : Array Oper) (ia : Nat) (an : List (List Nat)) (i : Nat) (b : Bool) (j : Nat) (c : Bool) : Bool :=
 match ops[i]?, ops[j]? with
 | some oi, some oj =>
  let waits := oj.after.any fun e => Region.binds .any e && e.on == i
  let anc := (an.getD j []).contains i
  (i != j) && (!b || anc || j == ia) &&
  (match oj.dst with
   | some d => bif c && j != ia then (!((oi.looksAt ops).contains d || oi.dst == some d)) || anc else !(oi.looksAt ops).contains d && oi.dst != some d
   | none => c && j != ia) &&
  (match oi.dst with
   | some d => !(oj.looksAt ops).contains d || waits
   | none => true)
 | _, _ => false
def ordPairsA (ops : Array Oper) (ia : Nat) (an : List (List Nat)) : List (Nat × Bool) → Bool
 | [] => true
 | (i, b) :: r => (b || (match ops[i]? with | some o => (match o.dst with | some d => !(o.looksAt ops).contains d | none => false) | none => false)) && r.all (fun q => ordPairA ops ia an i b q.1 q.2) && ordPairsA ops ia an r
def ordOkA (ops : Array Oper) (ia : Nat) (ord : List (Nat × Bool)) : Bool :=
 ((List.range ops.size).all fun i => (ord.map Prod.fst).contains i) && (ord.all fun q => decide (q.1 < ops.size)) &&
 ((List.range ops.size).all fun i => (ops[i]?).all fun o => o.after.all fun e => !Region.binds .any e || decide (e.on < i)) && (ord.all fun q => q.1 != ia || q.2) && ordPairsA ops ia (ancs ops.toList []) ord

theorem ordPairsA_app {ia : Nat} {an : List (List Nat)} : ∀ {pre r : List (Nat × Bool)}, ordPairsA ops ia an (pre ++ r) = true → ordPairsA ops ia an r = true ∧ ∀ q ∈ pre, ∀ s ∈ r, ordPairA ops ia an q.1 q.2 s.1 s.2 = true
 | [], r, h => ⟨h, fun q hq => by cases hq⟩
 | (i, b) :: pre, r, h => by
  rw [List.cons_append, ordPairsA] at h
  simp only [Bool.and_eq_true, List.all_eq_true] at h
  obtain ⟨h1, h2⟩ := ordPairsA_app h.2
  refine ⟨h1, fun q hq s hs => ?_⟩
  rcases List.mem_cons.1 hq with rfl | hq
  ·exact h.1.2 s (List.mem_append_right _ hs)
  ·exact h2 q hq s hs

structure PairOkA (ops : Array Oper) (ia : Nat) (an : List (List Nat)) (i : Nat) (b : Bool) (oi : Oper) (j : Nat) (c : Bool) (oj : Oper) : Prop where
 ne : i ≠ j
 main : b = true → j ≠ ia → i ∈ an.getD j []
 flt : c = false ∨ j = ia → ∃ d, oj.dst = some d ∧ d ∉ oi.looksAt ops ∧ oi.dst ≠ some d
 mn : c = true → j ≠ ia → ∀ d, oj.dst = some d → (d ∈ oi.looksAt ops ∨ oi.dst = some d) → i ∈ an.getD j []
 reads : ∀ d, oi.dst = some d → d ∈ oj.looksAt ops → ∃ e ∈ oj.after, Region.binds .any e = true ∧ e.on = i
theorem pairOkA {ia : Nat} {an : List (List Nat)} {i j : Nat} {b c : Bool} {oi oj : Oper} (h : ordPairA ops ia an i b j c = true) (hi : ops[i]? = some oi) (hj : ops[j]? = some oj) : PairOkA ops ia an i b oi j c oj := by
 unfold ordPairA at h
 rw [hi, hj] at h
 simp only [Bool.and_eq_true, bne_iff_ne, ne_eq] at h
 obtain ⟨⟨⟨h1, h2⟩, h3⟩, h4⟩ := h
 refine ⟨h1, fun hb hj => ?_, fun hc => ?_, fun hc hj d hd hm => ?_, fun d hd hm => ?_⟩
 ·subst hb; simpa [hj] using h2
 ·have hcj : (c && j != ia) = false := by rcases hc with hc | hc <;> simp [hc]
  cases hd : oj.dst with
  | none => rw [hd] at h3; simp only [hcj] at h3; cases h3
  | some d =>
   rw [hd] at h3
   simp only [hcj, cond_false] at h3
   simp at h3
   exact ⟨d, rfl, h3.1, h3.2⟩
 ·subst hc
  have hcj : (true && j != ia) = true := by simp [hj]
  rw [hd] at h3
  simp only [hcj, cond_true] at h3
  simp at h3
  rcases h3 with h3 | h3
  ·rcases hm with hm | hm
   ·exact absurd hm h3.1
   ·exact absurd hm h3.2
  ·exact h3
 ·rw [hd] at h4
  simp only [Bool.or_eq_true, Bool.not_eq_true', List.contains_eq_mem, decide_eq_false_iff_not] at h4
  rcases h4 with h4 | h4
  ·exact absurd hm h4
  ·obtain ⟨x, hx, hx2⟩ := any_mem h4
   simp only [Bool.and_eq_true, beq_iff_eq] at hx2
   exact ⟨x, hx, hx2.1, hx2.2⟩

/-- The state on the way. -/
structure NI (P : Program) (Γ : Cx) (ops : Array Oper) (al : Al) (Hs : List HE) (K : Env → List HE → Prop) (ord : List (Nat × Bool)) (listed : Array Bool) (A : Act) (W : World) (pre ms : List (Nat × Bool)) (Pd : List Nat) (ea : Option Nat) (E : Env) (H : List HE) (R : Nat → Prop) : Prop where
 size : listed.size = ops.size
 closed : Closed ops listed
 part : ∀ i, i < ops.size → (listed.getD i false = false ↔ (i ∈ Pd ∨ i ∈ ms.map Prod.fst) ∧ (ea ≠ none → i ≠ al.i))
 ord : ord = pre ++ ms
 pdp : ∀ i ∈ Pd, (i, false) ∈ pre
 am : AN P Γ.N ops al Hs K ms E H
 pend : ∀ i ∈ Pd, ∃ o d v, ops[i]? = some o ∧ o.dst = some d ∧ d < Γ.N ∧ look E d = some v ∧ OpF P Γ.N ops o (rst E (o.looksAt ops)) Hs (Is v)
 rels : RelS Γ R (H ++ (al.hs ea ++ Hs)) W
 eal : ∀ b, ea = some b → (al.i, true) ∈ ms ∧ A.eval (.tmp al.d) = .pointer (some ⟨b, 0, none⟩)
 defers : A.defers = []
 tmps : A.tmps.size = Γ.N
 act : ∀ t v, look E t = some v → (∀ i ∈ Pd, ∀ o, ops[i]? = some o → o.dst ≠ some t) → (ea ≠ none → t ≠ al.d) → RelV R W v (A.eval (.tmp t))

variable {Γ : Cx} {al : Al} {Hs : List HE} {K : Env → List HE → Prop} {ord : List (Nat × Bool)}

/-- What reads is pending as soon as it may run. -/
theorem NI.absorb {listed : Array Bool} {A : Act} {W : World} {R : Nat → Prop} (hok : ordPairsA ops al.i (ancs ops.toList []) ord = true) (hal : al.ok P Γ.N ops) : ∀ (ms pre : List (Nat × Bool)) (Pd : List Nat) (ea : Option Nat) (E : Env) (H : List HE), NI P Γ ops al Hs K ord listed A W pre ms Pd ea E H R →
  ∃ pre' ms' Pd' ea' E' H', NI P Γ ops al Hs K ord listed A W pre' ms' Pd' ea' E' H' R ∧ (ms' = [] ∨ ∃ m r, ms' = (m, true) :: r ∧ (m = al.i → ea' = none))
 | [], pre, Pd, ea, E, H, h => ⟨pre, [], Pd, ea, E, H, h, .inl rfl⟩
 | (m, true) :: r, pre, Pd, ea, E, H, h => by
  by_cases hm : m = al.i
  ·subst hm
   cases hea : ea with
   | none => subst hea; exact ⟨pre, _, Pd, none, E, H, h, .inr ⟨_, r, rfl, fun _ => rfl⟩⟩
   | some b =>
    subst hea
    obtain ⟨oa, ho, hd, hN, hg, hop⟩ := hal
    have ham := h.am
    rw [AN, if_pos rfl] at ham
    have hord := h.ord
    have hq := ordPairsA_app (pre := pre) (r := (al.i, true) :: r) (by rw [← hord]; exact hok)
    have hself : ∀ i ∈ Pd, i ≠ al.i := fun i hi e => by
     have := pairOkA (hq.2 _ (h.pdp i hi) (al.i, true) (List.mem_cons_self ..)) (by rw [e]; exact ho) ho
     exact this.ne e
    have hp : ∀ i ∈ Pd, ∀ oi, ops[i]? = some oi → al.d ∉ oi.looksAt ops ∧ oi.dst ≠ some al.d := fun i hi oi hoi => by
     have := pairOkA (hq.2 _ (h.pdp i hi) (al.i, true) (List.mem_cons_self ..)) hoi ho
     obtain ⟨d', h1, h2, h3⟩ := this.flt (.inr rfl)
     rw [hd] at h1
     cases h1
     exact ⟨h2, h3⟩
    have hnr : al.i ∉ r.map Prod.fst := fun hm => by
     obtain ⟨⟨j, c⟩, hq3, hji⟩ := List.mem_map.1 hm
     have h9 := (ordPairsA_app (pre := pre ++ [(al.i, true)]) (r := r) (by rw [List.append_assoc, List.singleton_append, ← hord]; exact hok)).2 (al.i, true) (by simp) _ hq3
     simp only at hji
     subst hji
     exact (pairOkA h9 ho ho).ne rfl
    refine NI.absorb hok ⟨oa, ho, hd, hN, hg, hop⟩ r (pre ++ [(al.i, true)]) Pd none ((al.d, .val (.pointer (some ⟨b, 0, none⟩))) :: E) (al.he b :: H) ⟨h.size, h.closed, fun i hi => ?_, by rw [hord]; simp, fun i hi => List.mem_append_left _ (h.pdp i hi), ham b, fun i hi => ?_, ?_, fun _ h => (by cases h), h.defers, h.tmps, fun t x ht hpd _ => ?_⟩
    ·rw [h.part i hi]
     simp only [List.map_cons, List.mem_cons, ne_eq, not_false_eq_true, forall_const, not_true_eq_false, false_implies, and_true, reduceCtorEq]
     constructor
     ·rintro ⟨h1 | h1 | h1, h2⟩
      ·exact .inl h1
      ·exact absurd h1 h2
      ·exact .inr h1
     ·rintro (h1 | h1)
      ·exact ⟨.inl h1, hself i h1⟩
      ·exact ⟨.inr (.inr h1), fun e => hnr (e ▸ h1)⟩
    ·obtain ⟨oi, di, vi, h1, h2, h3, h4, h5⟩ := h.pend i hi
     obtain ⟨h6, h7⟩ := hp i hi oi h1
     refine ⟨oi, di, vi, h1, h2, h3, ?_, by rw [rst_skip h6]; exact h5⟩
     rw [look_skip (fun e => h7 (by rw [h2, e]))]; exact h4
    ·refine h.rels.perm ?_
     show (al.he b :: (H ++ ([] ++ Hs))).Perm (H ++ ([al.he b] ++ Hs))
     exact (List.perm_middle (a := al.he b) (l₁ := H) (l₂ := Hs)).symm
    ·by_cases hdt : al.d = t
     ·subst hdt
      rw [look_here] at ht
      cases ht
      rw [(h.eal b rfl).2]; exact .val _
     ·rw [look_skip hdt] at ht
      exact h.act t x ht hpd fun _ e => hdt e.symm
  ·exact ⟨pre, _, Pd, ea, E, H, h, .inr ⟨m, r, rfl, fun e => absurd e hm⟩⟩
 | (j, false) :: r, pre, Pd, ea, E, H, h => by
  obtain ⟨o, d, v, ho, hd, hN, hop, ham⟩ := h.am
  have hord := h.ord
  have hq := ordPairsA_app (pre := pre) (r := (j, false) :: r) (by rw [← hord]; exact hok)
  have hself : d ∉ o.looksAt ops := by
   have := hq.1
   rw [ordPairsA] at this
   simp only [Bool.and_eq_true, ho, hd, Bool.false_or] at this
   simpa using this.1.1
  have hp : ∀ i ∈ Pd, ∀ oi, ops[i]? = some oi → d ∉ oi.looksAt ops ∧ oi.dst ≠ some d := fun i hi oi hoi => by
   have := pairOkA (hq.2 _ (h.pdp i hi) (j, false) (List.mem_cons_self ..)) hoi ho
   obtain ⟨d', h1, h2, h3⟩ := this.flt (.inl rfl)
   rw [hd] at h1
   cases h1
   exact ⟨h2, h3⟩
  refine NI.absorb hok hal r (pre ++ [(j, false)]) (j :: Pd) ea ((d, v) :: E) H ⟨h.size, h.closed, fun i hi => ?_, by rw [hord]; simp, fun i hi => ?_, ham, fun i hi => ?_, h.rels, fun b hb => ?_, h.defers, h.tmps, fun t x ht hpd hea => ?_⟩
  ·rw [h.part i hi]
   simp only [List.map_cons, List.mem_cons]
   refine and_congr_left fun _ => ?_
   constructor
   ·rintro (h | h | h)
    ·exact .inl (.inr h)
    ·exact .inl (.inl h)
    ·exact .inr h
   ·rintro ((h | h) | h)
    ·exact .inr (.inl h)
    ·exact .inl h
    ·exact .inr (.inr h)
  ·rcases List.mem_cons.1 hi with rfl | hi
   ·simp
   ·exact List.mem_append_left _ (h.pdp i hi)
  ·rcases List.mem_cons.1 hi with rfl | hi
   ·exact ⟨o, d, v, ho, hd, hN, look_here, by rw [rst_skip hself]; exact hop⟩
   ·obtain ⟨oi, di, vi, h1, h2, h3, h4, h5⟩ := h.pend i hi
    obtain ⟨h6, h7⟩ := hp i hi oi h1
    refine ⟨oi, di, vi, h1, h2, h3, ?_, by rw [rst_skip h6]; exact h5⟩
    rw [look_skip (fun e => h7 (by rw [h2, e]))]; exact h4
  ·obtain ⟨h1, h2⟩ := h.eal b hb
   rcases List.mem_cons.1 h1 with h1 | h1
   ·cases h1
   ·exact ⟨h1, h2⟩
  ·have hne : d ≠ t := fun e => hpd j (List.mem_cons_self ..) o ho (by rw [hd, e])
   rw [look_skip hne] at ht
   exact h.act t x ht (fun i hi => hpd i (List.mem_cons_of_mem _ hi)) hea

theorem NI.reads {listed : Array Bool} {A : Act} {W : World} {R : Nat → Prop} {pre ms : List (Nat × Bool)} {Pd : List Nat} {ea : Option Nat} {E : Env} {H : List HE} (hok : ordPairsA ops al.i (ancs ops.toList []) ord = true) (hal : al.ok P Γ.N ops) (h : NI P Γ ops al Hs K ord listed A W pre ms Pd ea E H R)
  {i : Nat} {b : Bool} {o : Oper} (ho : ops[i]? = some o) (hdeps : ∀ e ∈ o.after, Region.binds .any e = true → listed.getD e.on false = true) (hi : (i, b) ∈ pre ∧ i ∈ Pd ∧ b = false ∨ ∃ r, ms = (i, b) :: r ∧ i ≠ al.i) : RelA Γ.N R W (rst E (o.looksAt ops)) A := by
 refine ⟨h.defers, h.tmps, fun t v ht => ?_⟩
 obtain ⟨htl, ht⟩ := look_rst ht
 obtain ⟨oa, hoa, hda, -⟩ := hal
 have hnal : ea ≠ none → t ≠ al.d := fun hea e => by
  obtain ⟨b', hb'⟩ := Option.ne_none_iff_exists'.1 hea
  have hmem := (h.eal b' hb').1
  have key : ordPairA ops al.i (ancs ops.toList []) i b al.i true = true → False := fun hp => by
   obtain ⟨d', h1, h2, -⟩ := (pairOkA hp ho hoa).flt (.inr rfl)
   rw [hda] at h1; cases h1
   exact h2 (e ▸ htl)
  rcases hi with ⟨hip, -, -⟩ | ⟨r, hms, hne⟩
  ·exact key ((ordPairsA_app (pre := pre) (r := ms) (by rw [← h.ord]; exact hok)).2 _ hip _ hmem)
  ·rw [hms] at hmem
   rcases List.mem_cons.1 hmem with h9 | h9
   ·cases h9; exact hne rfl
   ·exact key ((ordPairsA_app (pre := pre ++ [(i, b)]) (r := r) (by have := h.ord; rw [List.append_assoc, List.singleton_append, ← hms, ← this]; exact hok)).2 (i, b) (by simp) _ h9)
 refine h.act t v ht (fun k hk ok hok' hdk => ?_) hnal
 have hkp := h.pdp k hk
 have hkn : ea ≠ none → k ≠ al.i := fun hea e => by
  obtain ⟨b', hb'⟩ := Option.ne_none_iff_exists'.1 hea
  have hmem := (h.eal b' hb').1
  exact (pairOkA ((ordPairsA_app (pre := pre) (r := ms) (by rw [← h.ord]; exact hok)).2 _ hkp _ hmem) hok' hoa).ne e
 have hkf : listed.getD k false = false := (h.part k (Array.getElem?_eq_some_iff.1 hok').1).2 ⟨.inl hk, hkn⟩
 have direct : ordPairA ops al.i (ancs ops.toList []) k false i b = true → False := fun hp => by
  obtain ⟨e, he, hb, hon⟩ := (pairOkA hp hok' ho).reads t hdk htl
  have := hdeps e he hb
  rw [hon, hkf] at this; cases this
 rcases hi with ⟨hip, hiP, rfl⟩ | ⟨r, hms, -⟩
 ·-- both ahead
  obtain ⟨p1, p2, hp12⟩ := List.append_of_mem hkp
  have hord := h.ord
  rw [hp12, List.append_assoc] at hord
  rw [hp12] at hip
  rcases List.mem_append.1 hip with hip | hip
  ·-- i ahead of k
   have hq := ordPairsA_app (pre := p1) (by rw [← hord]; exact hok)
   have := pairOkA (hq.2 _ hip (k, false) (List.mem_cons_self ..)) ho hok'
   obtain ⟨d', h1, h2, -⟩ := this.flt (.inl rfl)
   rw [hdk] at h1; cases h1
   exact h2 htl
  ·rcases List.mem_cons.1 hip with he | hip
   ·cases he
    -- itself
    have hq := (ordPairsA_app (pre := p1) (by rw [← hord]; exact hok)).1
    rw [List.cons_append, ordPairsA] at hq
    simp only [Bool.and_eq_true] at hq
    obtain rfl : o = ok := by rw [ho] at hok'; exact Option.some.inj hok'
    have := hq.1.1
    rw [ho] at this
    simp only [hdk, Bool.false_or] at this
    simp at this
    exact this htl
   ·rw [show p1 ++ ((k, false) :: p2 ++ ms) = (p1 ++ [(k, false)]) ++ (p2 ++ ms) by simp] at hord
    have hq := ordPairsA_app (pre := p1 ++ [(k, false)]) (by rw [← hord]; exact hok)
    exact direct (hq.2 (k, false) (by simp) (i, false) (List.mem_append_left _ hip))
 ·have hq := ordPairsA_app (pre := pre) (r := ms) (by rw [← h.ord]; exact hok)
  exact direct (hq.2 _ hkp (i, b) (by rw [hms]; exact List.mem_cons_self ..))

/-! One operation. -/
theorem AN.op {i d : Nat} {r : List (Nat × Bool)} {E : Env} {H : List HE} {o : Oper} {v : AV} (ho : ops[i]? = some o) (h : OpW P N o (rst E (o.looksAt ops)) Hs (Is v)) (hw : wantedIs ops (rst E (o.looksAt ops)) o = some true) (hd : o.dst = some d) (hN : Nat.ble (d + 1) N = true) (k : AN P N ops al Hs K r ((d, v) :: E) H) :
  AN P N ops al Hs K ((i, false) :: r) E H := ⟨o, d, v, ho, hd, Nat.le_of_ble_eq_true hN, .run hw h, k⟩
theorem AN.opG {i d : Nat} {r : List (Nat × Bool)} {E : Env} {H : List HE} {o : Oper} {c : Bool} {v : AV} (ho : ops[i]? = some o) (hw : guardIs ops (rst E (o.looksAt ops)) o = some c) (hd : o.dst = some d) (hN : Nat.ble (d + 1) N = true) (h : c = true → OpW P N o (rst E (o.looksAt ops)) Hs (Is v)) (k : AN P N ops al Hs K r ((d, .opt c v) :: E) H) :
  AN P N ops al Hs K ((i, false) :: r) E H := ⟨o, d, _, ho, hd, Nat.le_of_ble_eq_true hN, .opt hw h, k⟩
theorem AN.no {i d : Nat} {r : List (Nat × Bool)} {E : Env} {H : List HE} {o : Oper} (ho : ops[i]? = some o) (hw : wantedIs ops (rst E (o.looksAt ops)) o = some false) (hd : o.dst = some d) (hN : Nat.ble (d + 1) N = true) (k : AN P N ops al Hs K r ((d, .val undef) :: E) H) :
  AN P N ops al Hs K ((i, false) :: r) E H := ⟨o, d, _, ho, hd, Nat.le_of_ble_eq_true hN, .no hw, k⟩
theorem AN.main {i : Nat} {r : List (Nat × Bool)} {E : Env} {H : List HE} (o : Oper) (ho : ops[i]? = some o) (hne : Nat.beq i al.i = false) (h : ∀ w0 R0, AO ⟨w0, footOf H, R0, N⟩ P ops (QS ⟨w0, footOf H, R0, N⟩ o.dst (fun v H' => AN P N ops al Hs K r (putE o.dst v E) H')) [o] (rst E (o.looksAt ops)) H) :
  AN P N ops al Hs K ((i, true) :: r) E H := by rw [AN, if_neg (Nat.ne_of_beq_eq_false hne)]; exact ⟨o, ho, h⟩
theorem AN.box {i : Nat} {r : List (Nat × Bool)} {E : Env} {H : List HE} (he : i = al.i) (k : ∀ b, AN P N ops al Hs K r ((al.d, .val (.pointer (some ⟨b, 0, none⟩))) :: E) (al.he b :: H)) : AN P N ops al Hs K ((i, true) :: r) E H := by rw [AN, if_pos he]; exact k
theorem AN.nil {E : Env} {H : List HE} (h : K E H) : AN P N ops al Hs K [] E H := h
end
end Go.Proofs.YtoonnnifelnaiaaGreatDoor.A

namespace Go.Proofs.YtoonnnifelnaiaaGreatDoor.A
open Go.RowKit L
set_option linter.unusedVariables false
set_option maxRecDepth 20000
set_option linter.unusedSimpArgs false
section
variable {Γ : Cx} {P : Program} {Q : Exit → Act → World → Prop} {E : Env} {H : List HE} {N : Nat} {o : Oper} {ops : Array Oper} {rest : List Oper}
end
end Go.Proofs.YtoonnnifelnaiaaGreatDoor.A

namespace Go.Proofs.YtoonnnifelnaiaaGreatDoor.A
open Go.RowKit L
set_option linter.unusedVariables false
set_option maxRecDepth 20000
set_option linter.unusedSimpArgs false
section
variable {Γ : Cx} {P : Program} {Q : Exit → Act → World → Prop} {E : Env} {H : List HE} {N : Nat} {o : Oper} {ops : Array Oper} {rest : List Oper}

/-- Values that hold no memory. -/
def Plain (v : AV) : Prop := (∃ c, v = .val c) ∨ ∃ xs, v = .agg xs ∧ ∀ x ∈ xs, ∃ c, x = .val c
theorem Plain.val {c : Value} : Plain (.val c) := .inl ⟨c, rfl⟩
theorem Plain.rel {v : AV} (h : Plain v) {R R' : Nat → Prop} {W W' : World} {u : Value} (hv : RelV R W v u) : RelV R' W' v u := by
 rcases h with ⟨c, rfl⟩ | ⟨xs, rfl, hx⟩
 ·rw [hv.val_inv]; exact .val _
 ·cases hv with
  | agg _ cs hs hr =>
   refine .agg _ cs hs fun j hj => ?_
   obtain ⟨c, hc⟩ := hx xs[j] (List.getElem_mem hj)
   have := hr j hj
   rw [hc] at this ⊢
   rw [this.val_inv]; exact .val _

inductive LendB (b : Nat) (ys : List AV) : List AV → List AV → Prop
 | nil : LendB b ys [] []
 | same {a : AV} {r r' : List AV} : LendB b ys r r' → LendB b ys (a :: r) (a :: r')
 | lend {j : Nat} {r r' : List AV} : LendB b ys r r' → LendB b ys (.val (.pointer (some ⟨b, j, none⟩)) :: r) (.rp ys j :: r')
theorem blk_rp {R : Nat → Prop} {W : World} {b T room j : Nat} {xs : List AV} (h : HE.ok R W (.blk b T room xs)) : RelV (fun c => R c ∨ c = b) W (.rp xs j) (.pointer (some ⟨b, j, none⟩)) := by
 have := RelV.rp (R := fun c => R c ∨ c = b) (W := W) xs j b 0 (fun q => (W.cell? ⟨b, 0 + q, none⟩).getD undef) (.inr rfl) (fun q hq => by
  obtain ⟨u, hu, _⟩ := blk_cell h (j := q) (v := xs[q]) (by simp [hq])
  rw [Nat.zero_add, hu]; rfl) (fun q hq => by
  obtain ⟨u, hu, hr⟩ := blk_cell h (j := q) (v := xs[q]) (by simp [hq])
  rw [Nat.zero_add, hu]
  exact hr.mono (fun _ h => .inl h) (fun _ _ => rfl))
 simpa using this
theorem LendB.rel {R : Nat → Prop} {W : World} {b T room : Nat} {xs : List AV} (h : HE.ok R W (.blk b T room xs)) {a a' : List AV} (hl : LendB b xs a a') : ∀ {us : List Value}, RelL R W a us → RelL (fun c => R c ∨ c = b) W a' us := by
 induction hl with
 | nil => intro us h; exact h.mono (fun _ h => .inl h) (fun _ _ => rfl)
 | same _ ih =>
  intro us h
  obtain ⟨u, r, rfl, h1, h2⟩ := h.uncons
  exact RelL.cons (h1.mono (fun _ h => .inl h) (fun _ _ => rfl)) (ih h2)
 | lend _ ih =>
  intro us h'
  obtain ⟨u, r, rfl, h1, h2⟩ := h'.uncons
  rw [h1.val_inv]
  exact RelL.cons (blk_rp h) (ih h2)
end

/-! Bytes told by a function of their place. -/
def fnB (n : Nat) (f : Nat → UInt8) : List UInt8 := (List.range n).map f
def arB (n : Nat) (f : Nat → UInt8) : List AV := bytesA (fnB n f)
theorem splice_full {xs cs : List AV} (h : xs.length = cs.length) : splice xs 0 cs = cs := by
 rw [splice_eq _ _ _ (by omega)]
 simp [h]
end Go.Proofs.YtoonnnifelnaiaaGreatDoor.A

namespace Go.Proofs.YtoonnnifelnaiaaGreatDoor.A
open Go.RowKit L
section
variable {Γ : Cx} {P : Program} {E : Env} {H : List HE} {N : Nat} {o : Oper}
def PlainP (Post : AV → List HE → Prop) : Prop := ∀ r Hn, Post r Hn → (∀ (R R' : Nat → Prop) W u, RelV R W r u → RelV R' W r u) ∧ ∀ e ∈ Hn, ∀ (R R' : Nat → Prop) W, HE.ok R W e → HE.ok R' W e
end
end Go.Proofs.YtoonnnifelnaiaaGreatDoor.A

namespace Go.Proofs.YtoonnnifelnaiaaGreatDoor.A
open Go.RowKit L
section
variable {Γ : Cx} {P : Program} {E : Env} {H : List HE} {N : Nat} {o : Oper}
inductive LendX (H : List HE) : List AV → List AV → Prop
 | nil : LendX H [] []
 | same {a : AV} {r r' : List AV} : LendX H r r' → LendX H (a :: r) (a :: r')
 | row {v : Value} {T sz n : Nat} {rs r r' : List AV} (i : Nat) (hi : H[i]? = some (.row v T sz n rs)) : LendX H r r' → LendX H (.val v :: r) (.ro false n rs :: r')
 | agg {xs xs' r r' : List AV} : LendX H xs xs' → LendX H r r' → LendX H (.agg xs :: r) (.agg xs' :: r')
theorem LendX.rel {R : Nat → Prop} {W : World} (hok : ∀ e ∈ H, e.ok R W) {a a' : List AV} (h : LendX H a a') : ∀ {us : List Value}, RelL R W a us → RelL (fun b => R b ∨ ∃ e ∈ H, e.foot b) W a' us := by
 induction h with
 | nil => intro us h; exact h.mono (fun _ h => .inl h) (fun _ _ => rfl)
 | same _ ih =>
  intro us h
  obtain ⟨u, r, rfl, h1, h2⟩ := h.uncons
  exact RelL.cons (h1.mono (fun _ h => .inl h) (fun _ _ => rfl)) (ih h2)
 | row i hi _ ih =>
  intro us h
  obtain ⟨u, r, rfl, h1, h2⟩ := h.uncons
  have := h1.val_inv
  subst this
  have hm := List.mem_of_getElem? hi
  exact RelL.cons ((row_ro (hok _ hm)).mono (fun b hb => hb.elim .inl fun hf => .inr ⟨_, hm, hf⟩) (fun _ _ => rfl)) (ih h2)
 | agg _ _ ih1 ih2 =>
  intro us h
  obtain ⟨u, r, rfl, h1, h2⟩ := h.uncons
  obtain ⟨vs, rfl, hv⟩ := h1.agg_inv
  exact RelL.cons (ih1 hv).toAgg (ih2 h2)
end
end Go.Proofs.YtoonnnifelnaiaaGreatDoor.A

namespace Go.Proofs.YtoonnnifelnaiaaGreatDoor.A
open Go.RowKit L
section
variable {Γ : Cx} {P : Program} {E : Env} {H : List HE} {N : Nat} {o : Oper}
/-- A guarded call that is made, to which one own block is given. -/
theorem AO.callMGw {Q : Exit → Act → World → Prop} {ops : Array Oper} {rest : List Oper} {f : FuncId} {d : Nat} {xs : List Operand} {ats : Array TypeId} {args : List AV} (i : Nat) {e : HE} {Post : AV → List HE → Prop} {fn : Func} (ho : o.op = .call { callee := .value (.func f), args := xs.toArray, argTypes := ats }) (hw : wantedIs ops E o = some true) (hfn : P.funcs[f]? = some fn) (hn : (fn.name == "runtime.NumGoroutine") = false) (hb : fn.body.isNone = false)
  (hx : evs E xs = some args) (hd : o.dst = some d) (hN : Nat.ble (d + 1) Γ.N = true) (hi : H[i]? = some e) (h : Sp P f args [e] Post) (next : ∀ r H', Post r H' → AO Γ P ops Q rest ((d, r) :: E) (H' ++ H.eraseIdx i)) : AO Γ P ops Q (o :: rest) E H := fun R a W hs ha => by
 have h1 := AO.callMG (o := { o with guard := none }) i ho rfl hfn hn hb hx hd hN hi h next R a W hs ha
 unfold wpList at h1 ⊢
 rw [if_pos (wanted_is ha hw)]
 rw [if_pos (by unfold Region.wanted; rfl)] at h1
 exact h1
end
end Go.Proofs.YtoonnnifelnaiaaGreatDoor.A

namespace Go.Proofs.YtoonnnifelnaiaaGreatDoor.A
open Go.RowKit L
set_option linter.unusedVariables false
set_option maxRecDepth 20000
set_option linter.unusedSimpArgs false
/-- What is known of the block of a package variable. -/
def GK (g : Nat) (vs : List Value) (W : World) : Prop := ∃ cs T, W.heap[g]? = some (.cells cs T (0, 0)) ∧ cs.toList = vs
theorem GK.lt {g : Nat} {vs : List Value} {W : World} (h : GK g vs W) : g < W.heap.size := by
 obtain ⟨cs, T, h, _⟩ := h
 exact (Array.getElem?_eq_some_iff.1 h).1
theorem GK.mods {g : Nat} {vs : List Value} {S : Nat → Prop} {W W' : World} (h : GK g vs W) (hm : Mods S W W') (hS : ¬ S g) : GK g vs W' := by
 have hl := h.lt
 obtain ⟨cs, T, h1, h2⟩ := h
 exact ⟨cs, T, by rw [hm.block g hl hS]; exact h1, h2⟩
/-- What a function does where the variable is known. -/
def SpK (K : World → Prop) (P : Program) (f : FuncId) (args : List AV) (H0 : List HE) (Post : AV → List HE → Prop) : Prop :=
 ∀ (W : World) (R : Nat → Prop) (us : List Value), K W → (∀ b, R b → b < W.heap.size) → (∀ e ∈ H0, e.ok R W ∧ ∀ b, e.foot b → ¬ R b) → H0.Pairwise Disj → RelL R W args us →
  Calls P f us.toArray W fun e W' => ∃ u r H' R', e = .returned u ∧ Post r H' ∧ RelS ⟨W, footOf H0, R, 0⟩ R' H' W' ∧ RelV R' W' r u
theorem SpK.of {K : World → Prop} {P : Program} {f : FuncId} {args : List AV} {H0 : List HE} {Post : AV → List HE → Prop} (h : Sp P f args H0 Post) : SpK K P f args H0 Post := fun W R us _ h1 h2 h3 h4 => h W R us h1 h2 h3 h4
theorem SpK.coe {K : World → Prop} {P : Program} {f : FuncId} {args args' : List AV} {H0 : List HE} {Post : AV → List HE → Prop} (h : SpK K P f args' H0 Post) (hc : CoeL args args') : SpK K P f args H0 Post := fun W R us hK h1 h2 h3 h4 => h W R us hK h1 h2 h3 (hc R W us h4)
theorem notFoot_nil {g : Nat} : ¬ footOf [] g := fun ⟨e, he, _⟩ => by cases he
theorem notFoot_blk {g B T room : Nat} {xs : List AV} (h : B ≠ g) : ¬ footOf [.blk B T room xs] g := fun ⟨e, he, hb⟩ => by
 obtain rfl := List.mem_singleton.1 he
 exact h hb.symm
theorem SpK.enter {K : World → Prop} {P : Program} {f : FuncId} {args : List AV} {H0 : List HE} {Post : AV → List HE → Prop} {fn : Func} {c : Code} (hf : P.funcs[f]? = some fn) (hb : fn.body = some c) (n : Nat) (hn : fn.ntmps = n) (hl : Nat.ble args.length n = true)
  (h : ∀ w0 R0, K w0 → AW ⟨w0, footOf H0, R0, n⟩ P (FnQ ⟨w0, footOf H0, R0, n⟩ P fn Post) c (envOf 0 args) H0) : SpK K P f args H0 Post := fun W R us hK h1 h2 h3 h4 => by
 refine calls_of_wp hf hb (h W R hK R _ W ⟨Mods.refl _ _, h1, fun _ h => h, fun _ h => .inl h, fun e he => (h2 e he).1, fun e he b hb => ⟨.inr ⟨e, he, hb⟩, (h2 e he).2 b hb⟩, h3⟩ ⟨rfl, ?_, ?_⟩)
 ·have := Nat.le_of_ble_eq_true hl
  have h5 := h4.1
  simp [hn]; omega
 ·intro t v ht
  have key : ∀ (args : List AV) (k : Nat), look (envOf k args) t = some v → k ≤ t ∧ args[t - k]? = some v := by
   intro args
   induction args with
   | nil => intro k h; cases h
   | cons x r ih =>
    intro k h
    rw [envOf] at h
    unfold look at h
    cases hb : Nat.beq k t with
    | true =>
     rw [hb] at h
     have := Nat.eq_of_beq_eq_true hb
     subst this
     simp at h ⊢; exact h
    | false =>
     rw [hb] at h
     obtain ⟨h5, h6⟩ := ih (k + 1) h
     have : k ≠ t := fun e => by subst e; simp at hb
     refine ⟨by omega, ?_⟩
     rw [show t - k = (t - (k + 1)) + 1 by omega]
     simpa using h6
  obtain ⟨_, h5⟩ := key args 0 ht
  obtain ⟨u, h6, h7⟩ := h4.get (j := t) (by simpa using h5)
  have ht' : t < us.length := (List.getElem?_eq_some_iff.1 h6).1
  have hu : us[t] = u := (List.getElem?_eq_some_iff.1 h6).2
  have : Act.eval { tmps := us.toArray ++ Array.replicate (fn.ntmps - us.toArray.size) undef, defers := [] } (.tmp t) = u := by
   simp only [Act.eval, Array.getD]
   rw [dif_pos (by simp; omega)]
   simp [Array.getElem_append, ht', hu]
  rw [this]; exact h7
section
variable {Γ : Cx} {P : Program} {Q : Exit → Act → World → Prop} {E : Env} {H : List HE} {N : Nat} {o : Oper} {ops : Array Oper} {rest : List Oper}
/-- A call of a function whose contract needs the variable; it may write blocks of the caller's. -/
theorem AO.callMK {f : FuncId} {d : Nat} {g : Nat} {vs : List Value} {xs : List Operand} {ats : Array TypeId} {args : List AV} {H0 H1 : List HE} {Post : AV → List HE → Prop} {fn : Func} (hK : GK g vs Γ.w0) (hS : ¬ Γ.S g) (ho : o.op = .call { callee := .value (.func f), args := xs.toArray, argTypes := ats }) (hw : wantedIs ops E o = some true) (hfn : P.funcs[f]? = some fn) (hn : (fn.name == "runtime.NumGoroutine") = false) (hb : fn.body.isNone = false)
  (hx : evs E xs = some args) (hd : o.dst = some d) (hN : d < Γ.N) (hH : H.Perm (H0 ++ H1)) (h : SpK (GK g vs) P f args H0 Post) (next : ∀ r H', Post r H' → AO Γ P ops Q rest ((d, r) :: E) (H' ++ H1)) : AO Γ P ops Q (o :: rest) E H := fun R a W hs ha => by
 have hs0 := hs.perm hH.symm
 have hc := h W R (xs.map a.eval) (hK.mods hs.mods hS) hs.rlt (fun e he => ⟨hs0.ok e (List.mem_append_left _ he), fun b hb => (hs0.own e (List.mem_append_left _ he) b hb).2⟩) (List.pairwise_append.1 hs0.disj).1 (ha.evs hx)
 unfold wpList
 rw [if_pos (wanted_is ha hw)]
 refine .inl ?_
 unfold Oper.wp
 rw [run_callF ho hfn hn hb, List.map_toArray]
 refine Calls.mono hc ?_
 rintro e W' ⟨u, r, H', R', rfl, hP, hs', hv⟩
 show wpList P ops Q rest (a.put o.dst u) W'
 rw [hd]
 have hS0 : ∀ b, footOf H0 b → Γ.w0.heap.size ≤ b ∨ Γ.S b := fun b ⟨e, he, hb⟩ => (hs0.own e (List.mem_append_left _ he) b hb).1
 have hnR : ∀ b, footOf H0 b → ¬ R b := fun b ⟨e, he, hb⟩ => (hs0.own e (List.mem_append_left _ he) b hb).2
 have h1lt : ∀ e ∈ H1, ∀ b, e.foot b → b < W.heap.size := fun e he b hb => HE.ok_lt (hs0.ok e (List.mem_append_right _ he)) hb
 have h10 : ∀ e ∈ H1, ∀ b, e.foot b → ¬ footOf H0 b := fun e he b hb ⟨f, hf, hb'⟩ => (List.pairwise_append.1 hs0.disj).2.2 f hf e he b hb' hb
 have hR : ∀ b, R b → W'.heap[b]? = W.heap[b]? := fun b hb => hs'.mods.block b (hs.rlt b hb) fun hh => hnR b hh hb
 refine next r H' hP R' _ W' ⟨Mods.then hs.mods hs'.mods fun b hb hh => ?_, hs'.rlt, fun b hb => hs'.rsub b (hs.rsub b hb), fun b hb => ?_, ?_, ?_, ?_⟩ ((ha.mono hs'.rsub hR).put hN hv)
 ·rcases hS0 b hh with h | h
  ·omega
  ·exact h
 ·rcases hs'.rnew b hb with h | h | h
  ·exact hs.rnew b h
  ·exact .inr (.inl (Nat.le_trans hs.mods.size h))
  ·exact .inr (hS0 b h)
 ·intro e he
  rcases List.mem_append.1 he with he | he
  ·exact hs'.ok e he
  ·exact HE.ok_mono hs'.rsub hR hs'.mods.size (fun b hb => hs'.mods.block b (h1lt e he b hb) (h10 e he b hb)) (hs0.ok e (List.mem_append_right _ he))
 ·intro e he b hb
  rcases List.mem_append.1 he with he | he
  ·obtain ⟨h2, h3⟩ := hs'.own e he b hb
   refine ⟨?_, h3⟩
   rcases h2 with h2 | h2
   ·exact .inl (Nat.le_trans hs.mods.size h2)
   ·exact hS0 b h2
  ·refine ⟨(hs0.own e (List.mem_append_right _ he) b hb).1, fun hr => ?_⟩
   rcases hs'.rnew b hr with h | h | h
   ·exact (hs0.own e (List.mem_append_right _ he) b hb).2 h
   ·have h5 := h1lt e he b hb
    exact absurd h (by simpa using h5)
   ·exact h10 e he b hb h
 ·rw [List.pairwise_append]
  refine ⟨hs'.disj, (List.pairwise_append.1 hs0.disj).2.1, fun e he f hf b hb hb' => ?_⟩
  rcases (hs'.own e he b hb).1 with h | h
  ·have h5 := h1lt f hf b hb'
   exact absurd h (by simpa using h5)
  ·exact h10 f hf b hb' h
theorem AO.callK {f : FuncId} {d : Nat} {g : Nat} {vs : List Value} {xs : List Operand} {ats : Array TypeId} {args : List AV} {v : AV} {fn : Func} (hK : GK g vs Γ.w0) (hS : ¬ Γ.S g) (ho : o.op = .call { callee := .value (.func f), args := xs.toArray, argTypes := ats }) (hw : wantedIs ops E o = some true) (hfn : P.funcs[f]? = some fn) (hn : (fn.name == "runtime.NumGoroutine") = false) (hb : fn.body.isNone = false)
  (hx : evs E xs = some args) (hd : o.dst = some d) (hN : Nat.ble (d + 1) Γ.N = true) (h : SpK (GK g vs) P f args [] (Is v)) (next : AO Γ P ops Q rest ((d, v) :: E) H) : AO Γ P ops Q (o :: rest) E H :=
 AO.callMK (H0 := []) (H1 := H) hK hS ho hw hfn hn hb hx hd (Nat.le_of_ble_eq_true hN) (List.Perm.refl _) h (by rintro _ _ ⟨rfl, rfl⟩; exact next)
theorem AO.callK1 {f : FuncId} {d : Nat} {g : Nat} {vs : List Value} {xs : List Operand} {ats : Array TypeId} {args : List AV} {i : Nat} {e e' : HE} {v : AV} {H' : List HE} {fn : Func} (hK : GK g vs Γ.w0) (hS : ¬ Γ.S g) (ho : o.op = .call { callee := .value (.func f), args := xs.toArray, argTypes := ats }) (hw : wantedIs ops E o = some true) (hfn : P.funcs[f]? = some fn) (hn : (fn.name == "runtime.NumGoroutine") = false) (hb : fn.body.isNone = false)
  (hx : evs E xs = some args) (hd : o.dst = some d) (hN : Nat.ble (d + 1) Γ.N = true) (hi : H[i]? = some e) (h : SpK (GK g vs) P f args [e] (IsM v e')) (hH : H.set i e' = H') (next : AO Γ P ops Q rest ((d, v) :: E) H') : AO Γ P ops Q (o :: rest) E H :=
 AO.callMK (H0 := [e]) (H1 := H.eraseIdx i) hK hS ho hw hfn hn hb hx hd (Nat.le_of_ble_eq_true hN) (perm_idx hi) h (by
  rintro _ _ ⟨rfl, rfl⟩
  exact AO.perm (by rw [← hH]; exact perm_set hi) next)
/-- .. that block is not the variable's. -/
theorem AO.callK1n {f : FuncId} {d : Nat} {g : Nat} {vs : List Value} {xs : List Operand} {ats : Array TypeId} {args : List AV} {i B T room : Nat} {ys : List AV} {e' : HE} {v : AV} {H' : List HE} {fn : Func} (hK : GK g vs Γ.w0) (hS : ¬ Γ.S g) (ho : o.op = .call { callee := .value (.func f), args := xs.toArray, argTypes := ats }) (hw : wantedIs ops E o = some true) (hfn : P.funcs[f]? = some fn) (hn : (fn.name == "runtime.NumGoroutine") = false) (hb : fn.body.isNone = false)
  (hx : evs E xs = some args) (hd : o.dst = some d) (hN : Nat.ble (d + 1) Γ.N = true) (hi : H[i]? = some (.blk B T room ys)) (h : B ≠ g → SpK (GK g vs) P f args [.blk B T room ys] (IsM v e')) (hH : H.set i e' = H') (next : AO Γ P ops Q rest ((d, v) :: E) H') : AO Γ P ops Q (o :: rest) E H := fun R a W hs ha => by
 have hB : B ≠ g := fun e => by
  rcases (hs.own _ (List.mem_of_getElem? hi) B rfl).1 with h1 | h1
  ·have := hK.lt; omega
  ·exact hS (by rw [← e]; exact h1)
 exact AO.callK1 hK hS ho hw hfn hn hb hx hd hN hi (h hB) hH next R a W hs ha
/-- A call that leaves one block of the caller's changed, where the guard is known. -/
theorem AO.callM1w {f : FuncId} {d : Nat} {xs : List Operand} {ats : Array TypeId} {args : List AV} {i : Nat} {e e' : HE} {v : AV} {H' : List HE} {fn : Func} (ho : o.op = .call { callee := .value (.func f), args := xs.toArray, argTypes := ats }) (hw : wantedIs ops E o = some true) (hfn : P.funcs[f]? = some fn) (hn : (fn.name == "runtime.NumGoroutine") = false) (hb : fn.body.isNone = false)
  (hx : evs E xs = some args) (hd : o.dst = some d) (hN : Nat.ble (d + 1) Γ.N = true) (hi : H[i]? = some e) (h : Sp P f args [e] (IsM v e')) (hH : H.set i e' = H') (next : AO Γ P ops Q rest ((d, v) :: E) H') : AO Γ P ops Q (o :: rest) E H := by
 refine AO.callMGw i ho hw hfn hn hb hx hd hN hi h ?_
 rintro _ _ ⟨rfl, rfl⟩
 exact AO.perm (by rw [← hH]; exact perm_set hi) next
/-- Reading an array that is a package variable. -/
theorem AO.loadG {T d g k : Nat} {vs : List Value} [hg : TyG P T true k] (hK : GK g vs Γ.w0) (hS : ¬ Γ.S g) (ho : o.op = .load T (.global g)) (hw : wantedIs ops E o = some true) (hd : o.dst = some d) (hN : Nat.ble (d + 1) Γ.N = true) (hk : vs.length = k)
  (next : AO Γ P ops Q rest ((d, .agg (vs.map .val)) :: E) H) : AO Γ P ops Q (o :: rest) E H := fun R a W hs ha => by
 obtain ⟨cs, T', h1, h2⟩ := hK.mods hs.mods hS
 have hl := run_loadVarK hg W g 0 vs hk (fun i u hi => by
  rw [cell_of_row W g (0 + i) cs T' (0, 0) h1]
  rw [← h2] at hi
  simpa using hi)
 have hrun : (execOp a.eval o).run P W = .ok (.value (.agg vs.toArray)) W := by
  simp only [execOp, ho, Act.eval, Instr.loadAt, Instr.sureAddr, Sem.run_bind, Sem.run_pure, Result.andThen_ok, hl]
 unfold wpList
 rw [if_pos (wanted_is ha hw)]
 refine .inl ?_
 unfold Oper.wp
 rw [hrun]
 show wpList P ops Q rest (a.put o.dst _) W
 rw [hd]
 refine next R _ W hs (ha.put (Nat.le_of_ble_eq_true hN) (RelL.toAgg (xs := vs.map .val) (us := vs) ⟨by simp, fun j hj => ?_⟩))
 have hj' : j < vs.length := by simpa using hj
 have : vs.getD j undef = vs[j] := by simp [List.getD, hj']
 rw [this, List.getElem_map]
 exact .val _
/-- x[i] of an array whose elements are of one cell -/
theorem O.index1 {T U : Nat} {x y : Operand} {n : Nat} {kk : IntKind} {z : Int} {xs : List AV} {v : AV} [hd : TyD P T (.array n U)] [hg : TyG P U false 1] (ho : o.op = .index T x y) (hx : ev E x = some (.agg xs)) (hy : ev E y = some (.val (.int kk z))) (hz : 0 ≤ z ∧ z < n) (hv : xs[z.toNat]? = some v) :
  OpW P N o E H (Is v) := .of_run fun R a W h1 h2 ha => by
 obtain ⟨d, inf, hd1, hi1, hk1, hg1⟩ := hg.ax
 obtain ⟨us, hu, hr⟩ := (ha.ev hx).agg_inv
 obtain ⟨u, h3, h4⟩ := hr.get hv
 refine ⟨u, ?_, h4⟩
 simp only [execOp, ho, hu, (ha.ev hy).val_inv, Instr.index, asIntOf, run_underlying hd.ax, Sem.run_bind, Sem.run_pure, Result.andThen_ok, sizeOf, typeInfo, run_program, hi1, hk1]
 rw [if_pos hz]
 cases d <;> first | (cases hg1; done) | (simp [part, isAgg, run_underlying hd1, sizeOf, typeInfo, hi1, hk1, h3])
/-- An error that is nil is nil. -/
theorem O.neqNilI {T T' : Nat} {x : Operand} (hu : ∃ ms, P.underlying T = some (.interface ms)) (ho : o.op = .binOp .neq T x (.const .nilIface) T') (hx : ev E x = some (.val .nilIface)) : OpW P N o E H (Is (.val (.bool false))) := by
 obtain ⟨ms, hu⟩ := hu
 have hr := fun W => run_underlying hu W
 refine O.bin ho hx rfl fun W => ?_
 have h1 : (eqGuard .neq T x (.const .nilIface) .nilIface .nilIface).run P W = .ok () W := by
  unfold eqGuard
  simp
 have h2 : ∀ d, (Op.equalIn (d + 1) T .nilIface .nilIface).run P W = .ok true W := fun d => by
  unfold Op.equalIn
  rw [Sem.run_bind, hr W]
  rfl
 have h3 : (Op.equal T .nilIface .nilIface).run P W = .ok true W := h2 9999
 rw [Sem.run_bind, h1]
 simp only [Result.andThen_ok]
 show (do pure (Value.bool (!(← Op.equal T .nilIface .nilIface))) : Sem Value).run P W = _
 rw [Sem.run_bind, h3]
 rfl
/-! ### Parts of strings -/
def SBnd (E : Env) (lo : Option Operand) (d l : Nat) : Prop := match lo with
 | none => l = d
 | some y => ∃ k z, ev E y = some (.val (.int k z)) ∧ z = (l : Int)
theorem sbnd_run {R : Nat → Prop} {W : World} {a : Act} {lo : Option Operand} {l : Nat} (d n : Nat) (code : BoundsCode) (ha : RelA N R W E a) (h : SBnd E lo d l) (hl : l ≤ n) :
  (match lo.map a.eval with | some v => Instr.sliceBound v n code | none => pure d : Sem Nat).run P W = .ok l W := by
 cases lo with
 | none => obtain rfl : l = d := h; rfl
 | some y =>
  obtain ⟨k, z, h1, rfl⟩ := h
  have hv := (ha.ev h1).val_inv
  simp [hv, Instr.sliceBound, asIntOf, hl]
theorem O.sliceS {T l h : Nat} {x : Operand} {lo hi : Option Operand} {s r : ByteArray} [hT : TyD P T .string] (ho : o.op = .slice T x lo hi none) (hx : ev E x = some (.val (.string s))) (h1 : SBnd E lo 0 l) (h2 : SBnd E hi s.size h) (hlh : l ≤ h) (hh : h ≤ s.size) (hr : s.extract l h = r) : OpW P N o E H (Is (.val (.string r))) := .of_run fun R a W _ _ ha => by
 refine ⟨.string r, ?_, .val _⟩
 have e1 := sbnd_run (P := P) s.size s.size .sliceAlen ha h2 hh
 have e2 := sbnd_run (P := P) 0 h .sliceB ha h1 hlh
 have hv := (ha.ev hx).val_inv
 have hs : (Instr.sliceAt T (.string s) (lo.map a.eval) (hi.map a.eval) none).run P W = .ok (.string r) W := by
  unfold Instr.sliceAt
  rw [Sem.run_bind, run_underlying hT.ax W]
  simp only [Result.andThen_ok]
  unfold Instr.slice
  rw [Sem.run_bind, run_underlying hT.ax W]
  simp only [Result.andThen_ok]
  unfold Instr.sliceBounds
  cases lo <;> cases hi <;> simp_all
 simp only [execOp, ho, hv, Option.map_none, Sem.run_bind, hs, Result.andThen_ok]
 rfl
/-- Two strings behind each other. -/
theorem O.addS {T T' : Nat} {x y : Operand} {p q r : ByteArray} [hT : TyD P T .string] (ho : o.op = .binOp .add T x y T') (hx : ev E x = some (.val (.string p))) (hy : ev E y = some (.val (.string q))) (hl : p.size + q.size ≤ 1000000) (hr : p ++ q = r) : OpW P N o E H (Is (.val (.string r))) := by
 refine O.bin ho hx hy fun W => ?_
 subst hr
 have : ¬ ((p.size + q.size : Nat) : Int) > IntKind.i64.max := by
  show ¬ ((p.size + q.size : Nat) : Int) > 9223372036854775807
  omega
 simp [eqGuard, binOp, Op.stringOp, this]
 omega
end
end Go.Proofs.YtoonnnifelnaiaaGreatDoor.A

namespace Go.Proofs.YtoonnnifelnaiaaGreatDoor.A
set_option maxRecDepth 20000
instance n1 : TyN Tryz.prog 1 1 8 (.nilFunc) := ⟨Tryz.t1, Tryz.type1, rfl, rfl, rfl⟩
instance g1 : TyG Tryz.prog 1 false 1 := ⟨_, Tryz.t1, Tryz.underlying1, Tryz.type1, rfl, rfl⟩
instance d2 : TyD Tryz.prog 2 (.int .i64) := ⟨Tryz.underlying2⟩
instance n2 : TyN Tryz.prog 2 1 8 (.int .i64 0) := ⟨Tryz.t2, Tryz.type2, rfl, rfl, rfl⟩
instance g2 : TyG Tryz.prog 2 false 1 := ⟨_, Tryz.t2, Tryz.underlying2, Tryz.type2, rfl, rfl⟩
instance d3 : TyD Tryz.prog 3 (.int .i64) := ⟨Tryz.underlying3⟩
instance n3 : TyN Tryz.prog 3 1 8 (.int .i64 0) := ⟨Tryz.t3, Tryz.type3, rfl, rfl, rfl⟩
instance g3 : TyG Tryz.prog 3 false 1 := ⟨_, Tryz.t3, Tryz.underlying3, Tryz.type3, rfl, rfl⟩
instance d4 : TyD Tryz.prog 4 (.bool) := ⟨Tryz.underlying4⟩
instance n4 : TyN Tryz.prog 4 1 1 (.bool false) := ⟨Tryz.t4, Tryz.type4, rfl, rfl, rfl⟩
instance g4 : TyG Tryz.prog 4 false 1 := ⟨_, Tryz.t4, Tryz.underlying4, Tryz.type4, rfl, rfl⟩
instance d5 : TyD Tryz.prog 5 (.int .u8) := ⟨Tryz.underlying5⟩
instance n5 : TyN Tryz.prog 5 1 1 (.int .u8 0) := ⟨Tryz.t5, Tryz.type5, rfl, rfl, rfl⟩
instance g5 : TyG Tryz.prog 5 false 1 := ⟨_, Tryz.t5, Tryz.underlying5, Tryz.type5, rfl, rfl⟩
instance d6 : TyD Tryz.prog 6 (.int .u8) := ⟨Tryz.underlying6⟩
instance n6 : TyN Tryz.prog 6 1 1 (.int .u8 0) := ⟨Tryz.t6, Tryz.type6, rfl, rfl, rfl⟩
instance g6 : TyG Tryz.prog 6 false 1 := ⟨_, Tryz.t6, Tryz.underlying6, Tryz.type6, rfl, rfl⟩
instance n7 : TyN Tryz.prog 7 4 24 (.agg #[.int .i64 0, .int .i64 0, .bool false, .int .u8 0]) := ⟨Tryz.t7, Tryz.type7, rfl, rfl, rfl⟩
instance g7 : TyG Tryz.prog 7 true 4 := ⟨_, Tryz.t7, Tryz.underlying7, Tryz.type7, rfl, rfl⟩
instance f7_0 : TyF Tryz.prog 7 0 0 := ⟨_, _, Tryz.t2, Tryz.underlying7, rfl, rfl, Tryz.type2, by decide⟩
instance f7_1 : TyF Tryz.prog 7 1 1 := ⟨_, _, Tryz.t3, Tryz.underlying7, rfl, rfl, Tryz.type3, by decide⟩
instance f7_2 : TyF Tryz.prog 7 2 2 := ⟨_, _, Tryz.t4, Tryz.underlying7, rfl, rfl, Tryz.type4, by decide⟩
instance f7_3 : TyF Tryz.prog 7 3 3 := ⟨_, _, Tryz.t6, Tryz.underlying7, rfl, rfl, Tryz.type6, by decide⟩
instance b7 : TyB Tryz.prog 7 [(0, 1), (1, 1), (2, 1), (3, 1)] (.agg #[.int .i64 0, .int .i64 0, .bool false, .int .u8 0]) := ⟨Tryz.t7, Tryz.type7, rfl, .inl ⟨_, Tryz.underlying7, rfl⟩⟩
instance n8 : TyN Tryz.prog 8 4 24 (.agg #[.int .i64 0, .int .i64 0, .bool false, .int .u8 0]) := ⟨Tryz.t8, Tryz.type8, rfl, rfl, rfl⟩
instance g8 : TyG Tryz.prog 8 true 4 := ⟨_, Tryz.t8, Tryz.underlying8, Tryz.type8, rfl, rfl⟩
instance f8_0 : TyF Tryz.prog 8 0 0 := ⟨_, _, Tryz.t2, Tryz.underlying8, rfl, rfl, Tryz.type2, by decide⟩
instance f8_1 : TyF Tryz.prog 8 1 1 := ⟨_, _, Tryz.t3, Tryz.underlying8, rfl, rfl, Tryz.type3, by decide⟩
instance f8_2 : TyF Tryz.prog 8 2 2 := ⟨_, _, Tryz.t4, Tryz.underlying8, rfl, rfl, Tryz.type4, by decide⟩
instance f8_3 : TyF Tryz.prog 8 3 3 := ⟨_, _, Tryz.t6, Tryz.underlying8, rfl, rfl, Tryz.type6, by decide⟩
instance b8 : TyB Tryz.prog 8 [(0, 1), (1, 1), (2, 1), (3, 1)] (.agg #[.int .i64 0, .int .i64 0, .bool false, .int .u8 0]) := ⟨Tryz.t8, Tryz.type8, rfl, .inl ⟨_, Tryz.underlying8, rfl⟩⟩
instance d9 : TyD Tryz.prog 9 (.string) := ⟨Tryz.underlying9⟩
instance n9 : TyN Tryz.prog 9 1 16 (.string ⟨#[]⟩) := ⟨Tryz.t9, Tryz.type9, rfl, rfl, rfl⟩
instance g9 : TyG Tryz.prog 9 false 1 := ⟨_, Tryz.t9, Tryz.underlying9, Tryz.type9, rfl, rfl⟩
instance d10 : TyD Tryz.prog 10 (.string) := ⟨Tryz.underlying10⟩
instance n10 : TyN Tryz.prog 10 1 16 (.string ⟨#[]⟩) := ⟨Tryz.t10, Tryz.type10, rfl, rfl, rfl⟩
instance g10 : TyG Tryz.prog 10 false 1 := ⟨_, Tryz.t10, Tryz.underlying10, Tryz.type10, rfl, rfl⟩
instance d11 : TyD Tryz.prog 11 (.string) := ⟨Tryz.underlying11⟩
instance n11 : TyN Tryz.prog 11 1 16 (.string ⟨#[]⟩) := ⟨Tryz.t11, Tryz.type11, rfl, rfl, rfl⟩
instance g11 : TyG Tryz.prog 11 false 1 := ⟨_, Tryz.t11, Tryz.underlying11, Tryz.type11, rfl, rfl⟩
instance d12 : TyD Tryz.prog 12 (.int .u64) := ⟨Tryz.underlying12⟩
instance n12 : TyN Tryz.prog 12 1 8 (.int .u64 0) := ⟨Tryz.t12, Tryz.type12, rfl, rfl, rfl⟩
instance g12 : TyG Tryz.prog 12 false 1 := ⟨_, Tryz.t12, Tryz.underlying12, Tryz.type12, rfl, rfl⟩
instance n13 : TyN Tryz.prog 13 2 24 (.agg #[.string ⟨#[]⟩, .int .u64 0]) := ⟨Tryz.t13, Tryz.type13, rfl, rfl, rfl⟩
instance g13 : TyG Tryz.prog 13 true 2 := ⟨_, Tryz.t13, Tryz.underlying13, Tryz.type13, rfl, rfl⟩
instance f13_0 : TyF Tryz.prog 13 0 0 := ⟨_, _, Tryz.t9, Tryz.underlying13, rfl, rfl, Tryz.type9, by decide⟩
instance f13_1 : TyF Tryz.prog 13 1 1 := ⟨_, _, Tryz.t12, Tryz.underlying13, rfl, rfl, Tryz.type12, by decide⟩
instance b13 : TyB Tryz.prog 13 [(0, 1), (1, 1)] (.agg #[.string ⟨#[]⟩, .int .u64 0]) := ⟨Tryz.t13, Tryz.type13, rfl, .inl ⟨_, Tryz.underlying13, rfl⟩⟩
instance n14 : TyN Tryz.prog 14 2 24 (.agg #[.string ⟨#[]⟩, .int .u64 0]) := ⟨Tryz.t14, Tryz.type14, rfl, rfl, rfl⟩
instance g14 : TyG Tryz.prog 14 true 2 := ⟨_, Tryz.t14, Tryz.underlying14, Tryz.type14, rfl, rfl⟩
instance f14_0 : TyF Tryz.prog 14 0 0 := ⟨_, _, Tryz.t9, Tryz.underlying14, rfl, rfl, Tryz.type9, by decide⟩
instance f14_1 : TyF Tryz.prog 14 1 1 := ⟨_, _, Tryz.t12, Tryz.underlying14, rfl, rfl, Tryz.type12, by decide⟩
instance b14 : TyB Tryz.prog 14 [(0, 1), (1, 1)] (.agg #[.string ⟨#[]⟩, .int .u64 0]) := ⟨Tryz.t14, Tryz.type14, rfl, .inl ⟨_, Tryz.underlying14, rfl⟩⟩
instance d15 : TyD Tryz.prog 15 (.pointer 260) := ⟨Tryz.underlying15⟩
instance n15 : TyN Tryz.prog 15 1 8 (.pointer none) := ⟨Tryz.t15, Tryz.type15, rfl, rfl, rfl⟩
instance g15 : TyG Tryz.prog 15 false 1 := ⟨_, Tryz.t15, Tryz.underlying15, Tryz.type15, rfl, rfl⟩
instance d16 : TyD Tryz.prog 16 (.pointer 263) := ⟨Tryz.underlying16⟩
instance n16 : TyN Tryz.prog 16 1 8 (.pointer none) := ⟨Tryz.t16, Tryz.type16, rfl, rfl, rfl⟩
instance g16 : TyG Tryz.prog 16 false 1 := ⟨_, Tryz.t16, Tryz.underlying16, Tryz.type16, rfl, rfl⟩
instance d17 : TyD Tryz.prog 17 (.pointer 271) := ⟨Tryz.underlying17⟩
instance n17 : TyN Tryz.prog 17 1 8 (.pointer none) := ⟨Tryz.t17, Tryz.type17, rfl, rfl, rfl⟩
instance g17 : TyG Tryz.prog 17 false 1 := ⟨_, Tryz.t17, Tryz.underlying17, Tryz.type17, rfl, rfl⟩
instance n18 : TyN Tryz.prog 18 1 8 (.agg #[.pointer none]) := ⟨Tryz.t18, Tryz.type18, rfl, rfl, rfl⟩
instance g18 : TyG Tryz.prog 18 true 1 := ⟨_, Tryz.t18, Tryz.underlying18, Tryz.type18, rfl, rfl⟩
instance f18_0 : TyF Tryz.prog 18 0 0 := ⟨_, _, Tryz.t17, Tryz.underlying18, rfl, rfl, Tryz.type17, by decide⟩
instance b18 : TyB Tryz.prog 18 [(0, 1)] (.agg #[.pointer none]) := ⟨Tryz.t18, Tryz.type18, rfl, .inl ⟨_, Tryz.underlying18, rfl⟩⟩
instance n19 : TyN Tryz.prog 19 1 8 (.agg #[.pointer none]) := ⟨Tryz.t19, Tryz.type19, rfl, rfl, rfl⟩
instance g19 : TyG Tryz.prog 19 true 1 := ⟨_, Tryz.t19, Tryz.underlying19, Tryz.type19, rfl, rfl⟩
instance f19_0 : TyF Tryz.prog 19 0 0 := ⟨_, _, Tryz.t17, Tryz.underlying19, rfl, rfl, Tryz.type17, by decide⟩
instance b19 : TyB Tryz.prog 19 [(0, 1)] (.agg #[.pointer none]) := ⟨Tryz.t19, Tryz.type19, rfl, .inl ⟨_, Tryz.underlying19, rfl⟩⟩
instance n20 : TyN Tryz.prog 20 1 16 (.nilIface) := ⟨Tryz.t20, Tryz.type20, rfl, rfl, rfl⟩
instance g20 : TyG Tryz.prog 20 false 1 := ⟨_, Tryz.t20, Tryz.underlying20, Tryz.type20, rfl, rfl⟩
instance d21 : TyD Tryz.prog 21 (.int .i32) := ⟨Tryz.underlying21⟩
instance n21 : TyN Tryz.prog 21 1 4 (.int .i32 0) := ⟨Tryz.t21, Tryz.type21, rfl, rfl, rfl⟩
instance g21 : TyG Tryz.prog 21 false 1 := ⟨_, Tryz.t21, Tryz.underlying21, Tryz.type21, rfl, rfl⟩
instance d22 : TyD Tryz.prog 22 (.slice 3) := ⟨Tryz.underlying22⟩
instance n22 : TyN Tryz.prog 22 1 24 (.slice none 0 0) := ⟨Tryz.t22, Tryz.type22, rfl, rfl, rfl⟩
instance g22 : TyG Tryz.prog 22 false 1 := ⟨_, Tryz.t22, Tryz.underlying22, Tryz.type22, rfl, rfl⟩
instance s22 : TyS Tryz.prog 22 3 1 8 (.int .i64 0) := ⟨Tryz.underlying22, Tryz.t3, Tryz.type3, rfl, rfl, rfl⟩
instance n23 : TyN Tryz.prog 23 1 8 (.nilFunc) := ⟨Tryz.t23, Tryz.type23, rfl, rfl, rfl⟩
instance g23 : TyG Tryz.prog 23 false 1 := ⟨_, Tryz.t23, Tryz.underlying23, Tryz.type23, rfl, rfl⟩
instance n24 : TyN Tryz.prog 24 1 8 (.nilFunc) := ⟨Tryz.t24, Tryz.type24, rfl, rfl, rfl⟩
instance g24 : TyG Tryz.prog 24 false 1 := ⟨_, Tryz.t24, Tryz.underlying24, Tryz.type24, rfl, rfl⟩
instance d25 : TyD Tryz.prog 25 (.pointer 105) := ⟨Tryz.underlying25⟩
instance n25 : TyN Tryz.prog 25 1 8 (.pointer none) := ⟨Tryz.t25, Tryz.type25, rfl, rfl, rfl⟩
instance g25 : TyG Tryz.prog 25 false 1 := ⟨_, Tryz.t25, Tryz.underlying25, Tryz.type25, rfl, rfl⟩
instance n26 : TyN Tryz.prog 26 1 8 (.nilFunc) := ⟨Tryz.t26, Tryz.type26, rfl, rfl, rfl⟩
instance g26 : TyG Tryz.prog 26 false 1 := ⟨_, Tryz.t26, Tryz.underlying26, Tryz.type26, rfl, rfl⟩
instance d27 : TyD Tryz.prog 27 (.slice 34) := ⟨Tryz.underlying27⟩
instance n27 : TyN Tryz.prog 27 1 24 (.slice none 0 0) := ⟨Tryz.t27, Tryz.type27, rfl, rfl, rfl⟩
instance g27 : TyG Tryz.prog 27 false 1 := ⟨_, Tryz.t27, Tryz.underlying27, Tryz.type27, rfl, rfl⟩
instance s27 : TyS Tryz.prog 27 34 5 72 (.agg #[.int .i64 0, .slice none 0 0, .slice none 0 0, .int .i64 0, .int .i64 0]) := ⟨Tryz.underlying27, Tryz.t34, Tryz.type34, rfl, rfl, rfl⟩
instance d28 : TyD Tryz.prog 28 (.int .i64) := ⟨Tryz.underlying28⟩
instance n28 : TyN Tryz.prog 28 1 8 (.int .i64 0) := ⟨Tryz.t28, Tryz.type28, rfl, rfl, rfl⟩
instance g28 : TyG Tryz.prog 28 false 1 := ⟨_, Tryz.t28, Tryz.underlying28, Tryz.type28, rfl, rfl⟩
instance n30 : TyN Tryz.prog 30 1 8 (.nilFunc) := ⟨Tryz.t30, Tryz.type30, rfl, rfl, rfl⟩
instance g30 : TyG Tryz.prog 30 false 1 := ⟨_, Tryz.t30, Tryz.underlying30, Tryz.type30, rfl, rfl⟩
instance d31 : TyD Tryz.prog 31 (.slice 5) := ⟨Tryz.underlying31⟩
instance n31 : TyN Tryz.prog 31 1 24 (.slice none 0 0) := ⟨Tryz.t31, Tryz.type31, rfl, rfl, rfl⟩
instance g31 : TyG Tryz.prog 31 false 1 := ⟨_, Tryz.t31, Tryz.underlying31, Tryz.type31, rfl, rfl⟩
instance s31 : TyS Tryz.prog 31 5 1 1 (.int .u8 0) := ⟨Tryz.underlying31, Tryz.t5, Tryz.type5, rfl, rfl, rfl⟩
instance n32 : TyN Tryz.prog 32 1 8 (.nilFunc) := ⟨Tryz.t32, Tryz.type32, rfl, rfl, rfl⟩
instance g32 : TyG Tryz.prog 32 false 1 := ⟨_, Tryz.t32, Tryz.underlying32, Tryz.type32, rfl, rfl⟩
instance n33 : TyN Tryz.prog 33 5 72 (.agg #[.int .i64 0, .slice none 0 0, .slice none 0 0, .int .i64 0, .int .i64 0]) := ⟨Tryz.t33, Tryz.type33, rfl, rfl, rfl⟩
instance g33 : TyG Tryz.prog 33 true 5 := ⟨_, Tryz.t33, Tryz.underlying33, Tryz.type33, rfl, rfl⟩
instance f33_0 : TyF Tryz.prog 33 0 0 := ⟨_, _, Tryz.t3, Tryz.underlying33, rfl, rfl, Tryz.type3, by decide⟩
instance f33_1 : TyF Tryz.prog 33 1 1 := ⟨_, _, Tryz.t31, Tryz.underlying33, rfl, rfl, Tryz.type31, by decide⟩
instance f33_2 : TyF Tryz.prog 33 2 2 := ⟨_, _, Tryz.t31, Tryz.underlying33, rfl, rfl, Tryz.type31, by decide⟩
instance f33_3 : TyF Tryz.prog 33 3 3 := ⟨_, _, Tryz.t3, Tryz.underlying33, rfl, rfl, Tryz.type3, by decide⟩
instance f33_4 : TyF Tryz.prog 33 4 4 := ⟨_, _, Tryz.t3, Tryz.underlying33, rfl, rfl, Tryz.type3, by decide⟩
instance b33 : TyB Tryz.prog 33 [(0, 1), (1, 1), (2, 1), (3, 1), (4, 1)] (.agg #[.int .i64 0, .slice none 0 0, .slice none 0 0, .int .i64 0, .int .i64 0]) := ⟨Tryz.t33, Tryz.type33, rfl, .inl ⟨_, Tryz.underlying33, rfl⟩⟩
instance n34 : TyN Tryz.prog 34 5 72 (.agg #[.int .i64 0, .slice none 0 0, .slice none 0 0, .int .i64 0, .int .i64 0]) := ⟨Tryz.t34, Tryz.type34, rfl, rfl, rfl⟩
instance g34 : TyG Tryz.prog 34 true 5 := ⟨_, Tryz.t34, Tryz.underlying34, Tryz.type34, rfl, rfl⟩
instance f34_0 : TyF Tryz.prog 34 0 0 := ⟨_, _, Tryz.t3, Tryz.underlying34, rfl, rfl, Tryz.type3, by decide⟩
instance f34_1 : TyF Tryz.prog 34 1 1 := ⟨_, _, Tryz.t31, Tryz.underlying34, rfl, rfl, Tryz.type31, by decide⟩
instance f34_2 : TyF Tryz.prog 34 2 2 := ⟨_, _, Tryz.t31, Tryz.underlying34, rfl, rfl, Tryz.type31, by decide⟩
instance f34_3 : TyF Tryz.prog 34 3 3 := ⟨_, _, Tryz.t3, Tryz.underlying34, rfl, rfl, Tryz.type3, by decide⟩
instance f34_4 : TyF Tryz.prog 34 4 4 := ⟨_, _, Tryz.t3, Tryz.underlying34, rfl, rfl, Tryz.type3, by decide⟩
instance b34 : TyB Tryz.prog 34 [(0, 1), (1, 1), (2, 1), (3, 1), (4, 1)] (.agg #[.int .i64 0, .slice none 0 0, .slice none 0 0, .int .i64 0, .int .i64 0]) := ⟨Tryz.t34, Tryz.type34, rfl, .inl ⟨_, Tryz.underlying34, rfl⟩⟩
instance d35 : TyD Tryz.prog 35 (.slice 45) := ⟨Tryz.underlying35⟩
instance n35 : TyN Tryz.prog 35 1 24 (.slice none 0 0) := ⟨Tryz.t35, Tryz.type35, rfl, rfl, rfl⟩
instance g35 : TyG Tryz.prog 35 false 1 := ⟨_, Tryz.t35, Tryz.underlying35, Tryz.type35, rfl, rfl⟩
instance s35 : TyS Tryz.prog 35 45 7 104 (.agg #[.int .i64 0, .int .i64 0, .int .i64 0, .slice none 0 0, .slice none 0 0, .slice none 0 0, .int .i64 0]) := ⟨Tryz.underlying35, Tryz.t45, Tryz.type45, rfl, rfl, rfl⟩
instance n36 : TyN Tryz.prog 36 1 8 (.nilFunc) := ⟨Tryz.t36, Tryz.type36, rfl, rfl, rfl⟩
instance g36 : TyG Tryz.prog 36 false 1 := ⟨_, Tryz.t36, Tryz.underlying36, Tryz.type36, rfl, rfl⟩
instance n38 : TyN Tryz.prog 38 1 8 (.nilFunc) := ⟨Tryz.t38, Tryz.type38, rfl, rfl, rfl⟩
instance g38 : TyG Tryz.prog 38 false 1 := ⟨_, Tryz.t38, Tryz.underlying38, Tryz.type38, rfl, rfl⟩
instance d39 : TyD Tryz.prog 39 (.slice 74) := ⟨Tryz.underlying39⟩
instance n39 : TyN Tryz.prog 39 1 24 (.slice none 0 0) := ⟨Tryz.t39, Tryz.type39, rfl, rfl, rfl⟩
instance g39 : TyG Tryz.prog 39 false 1 := ⟨_, Tryz.t39, Tryz.underlying39, Tryz.type39, rfl, rfl⟩
instance s39 : TyS Tryz.prog 39 74 2 32 (.agg #[.int .i64 0, .slice none 0 0]) := ⟨Tryz.underlying39, Tryz.t74, Tryz.type74, rfl, rfl, rfl⟩
instance n40 : TyN Tryz.prog 40 6 96 (.agg #[.int .i64 0, .int .i64 0, .int .i64 0, .slice none 0 0, .slice none 0 0, .slice none 0 0]) := ⟨Tryz.t40, Tryz.type40, rfl, rfl, rfl⟩
instance g40 : TyG Tryz.prog 40 true 6 := ⟨_, Tryz.t40, Tryz.underlying40, Tryz.type40, rfl, rfl⟩
instance f40_0 : TyF Tryz.prog 40 0 0 := ⟨_, _, Tryz.t3, Tryz.underlying40, rfl, rfl, Tryz.type3, by decide⟩
instance f40_1 : TyF Tryz.prog 40 1 1 := ⟨_, _, Tryz.t3, Tryz.underlying40, rfl, rfl, Tryz.type3, by decide⟩
instance f40_2 : TyF Tryz.prog 40 2 2 := ⟨_, _, Tryz.t3, Tryz.underlying40, rfl, rfl, Tryz.type3, by decide⟩
instance f40_3 : TyF Tryz.prog 40 3 3 := ⟨_, _, Tryz.t31, Tryz.underlying40, rfl, rfl, Tryz.type31, by decide⟩
instance f40_4 : TyF Tryz.prog 40 4 4 := ⟨_, _, Tryz.t39, Tryz.underlying40, rfl, rfl, Tryz.type39, by decide⟩
instance f40_5 : TyF Tryz.prog 40 5 5 := ⟨_, _, Tryz.t31, Tryz.underlying40, rfl, rfl, Tryz.type31, by decide⟩
instance b40 : TyB Tryz.prog 40 [(0, 1), (1, 1), (2, 1), (3, 1), (4, 1), (5, 1)] (.agg #[.int .i64 0, .int .i64 0, .int .i64 0, .slice none 0 0, .slice none 0 0, .slice none 0 0]) := ⟨Tryz.t40, Tryz.type40, rfl, .inl ⟨_, Tryz.underlying40, rfl⟩⟩
instance n41 : TyN Tryz.prog 41 6 96 (.agg #[.int .i64 0, .int .i64 0, .int .i64 0, .slice none 0 0, .slice none 0 0, .slice none 0 0]) := ⟨Tryz.t41, Tryz.type41, rfl, rfl, rfl⟩
instance g41 : TyG Tryz.prog 41 true 6 := ⟨_, Tryz.t41, Tryz.underlying41, Tryz.type41, rfl, rfl⟩
instance f41_0 : TyF Tryz.prog 41 0 0 := ⟨_, _, Tryz.t3, Tryz.underlying41, rfl, rfl, Tryz.type3, by decide⟩
instance f41_1 : TyF Tryz.prog 41 1 1 := ⟨_, _, Tryz.t3, Tryz.underlying41, rfl, rfl, Tryz.type3, by decide⟩
instance f41_2 : TyF Tryz.prog 41 2 2 := ⟨_, _, Tryz.t3, Tryz.underlying41, rfl, rfl, Tryz.type3, by decide⟩
instance f41_3 : TyF Tryz.prog 41 3 3 := ⟨_, _, Tryz.t31, Tryz.underlying41, rfl, rfl, Tryz.type31, by decide⟩
instance f41_4 : TyF Tryz.prog 41 4 4 := ⟨_, _, Tryz.t39, Tryz.underlying41, rfl, rfl, Tryz.type39, by decide⟩
instance f41_5 : TyF Tryz.prog 41 5 5 := ⟨_, _, Tryz.t31, Tryz.underlying41, rfl, rfl, Tryz.type31, by decide⟩
instance b41 : TyB Tryz.prog 41 [(0, 1), (1, 1), (2, 1), (3, 1), (4, 1), (5, 1)] (.agg #[.int .i64 0, .int .i64 0, .int .i64 0, .slice none 0 0, .slice none 0 0, .slice none 0 0]) := ⟨Tryz.t41, Tryz.type41, rfl, .inl ⟨_, Tryz.underlying41, rfl⟩⟩
instance n42 : TyN Tryz.prog 42 1 8 (.nilFunc) := ⟨Tryz.t42, Tryz.type42, rfl, rfl, rfl⟩
instance g42 : TyG Tryz.prog 42 false 1 := ⟨_, Tryz.t42, Tryz.underlying42, Tryz.type42, rfl, rfl⟩
instance n43 : TyN Tryz.prog 43 1 8 (.nilFunc) := ⟨Tryz.t43, Tryz.type43, rfl, rfl, rfl⟩
instance g43 : TyG Tryz.prog 43 false 1 := ⟨_, Tryz.t43, Tryz.underlying43, Tryz.type43, rfl, rfl⟩
instance n44 : TyN Tryz.prog 44 7 104 (.agg #[.int .i64 0, .int .i64 0, .int .i64 0, .slice none 0 0, .slice none 0 0, .slice none 0 0, .int .i64 0]) := ⟨Tryz.t44, Tryz.type44, rfl, rfl, rfl⟩
instance g44 : TyG Tryz.prog 44 true 7 := ⟨_, Tryz.t44, Tryz.underlying44, Tryz.type44, rfl, rfl⟩
instance f44_0 : TyF Tryz.prog 44 0 0 := ⟨_, _, Tryz.t41, Tryz.underlying44, rfl, rfl, Tryz.type41, by decide⟩
instance f44_1 : TyF Tryz.prog 44 1 6 := ⟨_, _, Tryz.t3, Tryz.underlying44, rfl, rfl, Tryz.type3, by decide⟩
instance b44 : TyB Tryz.prog 44 [(0, 6), (6, 1)] (.agg #[.int .i64 0, .int .i64 0, .int .i64 0, .slice none 0 0, .slice none 0 0, .slice none 0 0, .int .i64 0]) := ⟨Tryz.t44, Tryz.type44, rfl, .inl ⟨_, Tryz.underlying44, rfl⟩⟩
instance n45 : TyN Tryz.prog 45 7 104 (.agg #[.int .i64 0, .int .i64 0, .int .i64 0, .slice none 0 0, .slice none 0 0, .slice none 0 0, .int .i64 0]) := ⟨Tryz.t45, Tryz.type45, rfl, rfl, rfl⟩
instance g45 : TyG Tryz.prog 45 true 7 := ⟨_, Tryz.t45, Tryz.underlying45, Tryz.type45, rfl, rfl⟩
instance f45_0 : TyF Tryz.prog 45 0 0 := ⟨_, _, Tryz.t41, Tryz.underlying45, rfl, rfl, Tryz.type41, by decide⟩
instance f45_1 : TyF Tryz.prog 45 1 6 := ⟨_, _, Tryz.t3, Tryz.underlying45, rfl, rfl, Tryz.type3, by decide⟩
instance b45 : TyB Tryz.prog 45 [(0, 6), (6, 1)] (.agg #[.int .i64 0, .int .i64 0, .int .i64 0, .slice none 0 0, .slice none 0 0, .slice none 0 0, .int .i64 0]) := ⟨Tryz.t45, Tryz.type45, rfl, .inl ⟨_, Tryz.underlying45, rfl⟩⟩
instance n47 : TyN Tryz.prog 47 1 8 (.nilFunc) := ⟨Tryz.t47, Tryz.type47, rfl, rfl, rfl⟩
instance g47 : TyG Tryz.prog 47 false 1 := ⟨_, Tryz.t47, Tryz.underlying47, Tryz.type47, rfl, rfl⟩
instance n49 : TyN Tryz.prog 49 1 8 (.nilFunc) := ⟨Tryz.t49, Tryz.type49, rfl, rfl, rfl⟩
instance g49 : TyG Tryz.prog 49 false 1 := ⟨_, Tryz.t49, Tryz.underlying49, Tryz.type49, rfl, rfl⟩
instance n50 : TyN Tryz.prog 50 1 8 (.nilFunc) := ⟨Tryz.t50, Tryz.type50, rfl, rfl, rfl⟩
instance g50 : TyG Tryz.prog 50 false 1 := ⟨_, Tryz.t50, Tryz.underlying50, Tryz.type50, rfl, rfl⟩
instance n51 : TyN Tryz.prog 51 1 8 (.nilFunc) := ⟨Tryz.t51, Tryz.type51, rfl, rfl, rfl⟩
instance g51 : TyG Tryz.prog 51 false 1 := ⟨_, Tryz.t51, Tryz.underlying51, Tryz.type51, rfl, rfl⟩
instance d52 : TyD Tryz.prog 52 (.slice 78) := ⟨Tryz.underlying52⟩
instance n52 : TyN Tryz.prog 52 1 24 (.slice none 0 0) := ⟨Tryz.t52, Tryz.type52, rfl, rfl, rfl⟩
instance g52 : TyG Tryz.prog 52 false 1 := ⟨_, Tryz.t52, Tryz.underlying52, Tryz.type52, rfl, rfl⟩
instance s52 : TyS Tryz.prog 52 78 9 120 (.agg #[.int .i64 0, .int .i64 0, .int .i64 0, .int .i64 0, .slice none 0 0, .slice none 0 0, .slice none 0 0, .int .i64 0, .int .i64 0]) := ⟨Tryz.underlying52, Tryz.t78, Tryz.type78, rfl, rfl, rfl⟩
instance d53 : TyD Tryz.prog 53 (.slice 122) := ⟨Tryz.underlying53⟩
instance n53 : TyN Tryz.prog 53 1 24 (.slice none 0 0) := ⟨Tryz.t53, Tryz.type53, rfl, rfl, rfl⟩
instance g53 : TyG Tryz.prog 53 false 1 := ⟨_, Tryz.t53, Tryz.underlying53, Tryz.type53, rfl, rfl⟩
instance s53 : TyS Tryz.prog 53 122 3 24 (.agg #[.int .i64 0, .int .i64 0, .int .i64 0]) := ⟨Tryz.underlying53, Tryz.t122, Tryz.type122, rfl, rfl, rfl⟩
instance d54 : TyD Tryz.prog 54 (.slice 126) := ⟨Tryz.underlying54⟩
instance n54 : TyN Tryz.prog 54 1 24 (.slice none 0 0) := ⟨Tryz.t54, Tryz.type54, rfl, rfl, rfl⟩
instance g54 : TyG Tryz.prog 54 false 1 := ⟨_, Tryz.t54, Tryz.underlying54, Tryz.type54, rfl, rfl⟩
instance s54 : TyS Tryz.prog 54 126 10 128 (.agg #[.int .i64 0, .int .i64 0, .int .i64 0, .bool false, .int .i64 0, .int .i64 0, .int .i64 0, .slice none 0 0, .slice none 0 0, .slice none 0 0]) := ⟨Tryz.underlying54, Tryz.t126, Tryz.type126, rfl, rfl, rfl⟩
instance n55 : TyN Tryz.prog 55 4 80 (.agg #[.int .i64 0, .slice none 0 0, .slice none 0 0, .slice none 0 0]) := ⟨Tryz.t55, Tryz.type55, rfl, rfl, rfl⟩
instance g55 : TyG Tryz.prog 55 true 4 := ⟨_, Tryz.t55, Tryz.underlying55, Tryz.type55, rfl, rfl⟩
instance f55_0 : TyF Tryz.prog 55 0 0 := ⟨_, _, Tryz.t3, Tryz.underlying55, rfl, rfl, Tryz.type3, by decide⟩
instance f55_1 : TyF Tryz.prog 55 1 1 := ⟨_, _, Tryz.t52, Tryz.underlying55, rfl, rfl, Tryz.type52, by decide⟩
instance f55_2 : TyF Tryz.prog 55 2 2 := ⟨_, _, Tryz.t53, Tryz.underlying55, rfl, rfl, Tryz.type53, by decide⟩
instance f55_3 : TyF Tryz.prog 55 3 3 := ⟨_, _, Tryz.t54, Tryz.underlying55, rfl, rfl, Tryz.type54, by decide⟩
instance b55 : TyB Tryz.prog 55 [(0, 1), (1, 1), (2, 1), (3, 1)] (.agg #[.int .i64 0, .slice none 0 0, .slice none 0 0, .slice none 0 0]) := ⟨Tryz.t55, Tryz.type55, rfl, .inl ⟨_, Tryz.underlying55, rfl⟩⟩
instance n56 : TyN Tryz.prog 56 4 80 (.agg #[.int .i64 0, .slice none 0 0, .slice none 0 0, .slice none 0 0]) := ⟨Tryz.t56, Tryz.type56, rfl, rfl, rfl⟩
instance g56 : TyG Tryz.prog 56 true 4 := ⟨_, Tryz.t56, Tryz.underlying56, Tryz.type56, rfl, rfl⟩
instance f56_0 : TyF Tryz.prog 56 0 0 := ⟨_, _, Tryz.t3, Tryz.underlying56, rfl, rfl, Tryz.type3, by decide⟩
instance f56_1 : TyF Tryz.prog 56 1 1 := ⟨_, _, Tryz.t52, Tryz.underlying56, rfl, rfl, Tryz.type52, by decide⟩
instance f56_2 : TyF Tryz.prog 56 2 2 := ⟨_, _, Tryz.t53, Tryz.underlying56, rfl, rfl, Tryz.type53, by decide⟩
instance f56_3 : TyF Tryz.prog 56 3 3 := ⟨_, _, Tryz.t54, Tryz.underlying56, rfl, rfl, Tryz.type54, by decide⟩
instance b56 : TyB Tryz.prog 56 [(0, 1), (1, 1), (2, 1), (3, 1)] (.agg #[.int .i64 0, .slice none 0 0, .slice none 0 0, .slice none 0 0]) := ⟨Tryz.t56, Tryz.type56, rfl, .inl ⟨_, Tryz.underlying56, rfl⟩⟩
instance d57 : TyD Tryz.prog 57 (.map 3 3) := ⟨Tryz.underlying57⟩
instance n57 : TyN Tryz.prog 57 1 8 (.map none) := ⟨Tryz.t57, Tryz.type57, rfl, rfl, rfl⟩
instance g57 : TyG Tryz.prog 57 false 1 := ⟨_, Tryz.t57, Tryz.underlying57, Tryz.type57, rfl, rfl⟩
instance n59 : TyN Tryz.prog 59 1 8 (.nilFunc) := ⟨Tryz.t59, Tryz.type59, rfl, rfl, rfl⟩
instance g59 : TyG Tryz.prog 59 false 1 := ⟨_, Tryz.t59, Tryz.underlying59, Tryz.type59, rfl, rfl⟩
instance n61 : TyN Tryz.prog 61 1 8 (.nilFunc) := ⟨Tryz.t61, Tryz.type61, rfl, rfl, rfl⟩
instance g61 : TyG Tryz.prog 61 false 1 := ⟨_, Tryz.t61, Tryz.underlying61, Tryz.type61, rfl, rfl⟩
instance n64 : TyN Tryz.prog 64 1 8 (.nilFunc) := ⟨Tryz.t64, Tryz.type64, rfl, rfl, rfl⟩
instance g64 : TyG Tryz.prog 64 false 1 := ⟨_, Tryz.t64, Tryz.underlying64, Tryz.type64, rfl, rfl⟩
instance n65 : TyN Tryz.prog 65 1 8 (.nilFunc) := ⟨Tryz.t65, Tryz.type65, rfl, rfl, rfl⟩
instance g65 : TyG Tryz.prog 65 false 1 := ⟨_, Tryz.t65, Tryz.underlying65, Tryz.type65, rfl, rfl⟩
instance d66 : TyD Tryz.prog 66 (.slice 133) := ⟨Tryz.underlying66⟩
instance n66 : TyN Tryz.prog 66 1 24 (.slice none 0 0) := ⟨Tryz.t66, Tryz.type66, rfl, rfl, rfl⟩
instance g66 : TyG Tryz.prog 66 false 1 := ⟨_, Tryz.t66, Tryz.underlying66, Tryz.type66, rfl, rfl⟩
instance s66 : TyS Tryz.prog 66 133 4 64 (.agg #[.int .i64 0, .slice none 0 0, .slice none 0 0, .int .i64 0]) := ⟨Tryz.underlying66, Tryz.t133, Tryz.type133, rfl, rfl, rfl⟩
instance n68 : TyN Tryz.prog 68 1 8 (.nilFunc) := ⟨Tryz.t68, Tryz.type68, rfl, rfl, rfl⟩
instance g68 : TyG Tryz.prog 68 false 1 := ⟨_, Tryz.t68, Tryz.underlying68, Tryz.type68, rfl, rfl⟩
instance n70 : TyN Tryz.prog 70 1 8 (.nilFunc) := ⟨Tryz.t70, Tryz.type70, rfl, rfl, rfl⟩
instance g70 : TyG Tryz.prog 70 false 1 := ⟨_, Tryz.t70, Tryz.underlying70, Tryz.type70, rfl, rfl⟩
instance n71 : TyN Tryz.prog 71 3 24 (.agg #[.int .i64 0, .bool false, .int .i64 0]) := ⟨Tryz.t71, Tryz.type71, rfl, rfl, rfl⟩
instance g71 : TyG Tryz.prog 71 true 3 := ⟨_, Tryz.t71, Tryz.underlying71, Tryz.type71, rfl, rfl⟩
instance f71_0 : TyF Tryz.prog 71 0 0 := ⟨_, _, Tryz.t3, Tryz.underlying71, rfl, rfl, Tryz.type3, by decide⟩
instance f71_1 : TyF Tryz.prog 71 1 1 := ⟨_, _, Tryz.t4, Tryz.underlying71, rfl, rfl, Tryz.type4, by decide⟩
instance f71_2 : TyF Tryz.prog 71 2 2 := ⟨_, _, Tryz.t3, Tryz.underlying71, rfl, rfl, Tryz.type3, by decide⟩
instance b71 : TyB Tryz.prog 71 [(0, 1), (1, 1), (2, 1)] (.agg #[.int .i64 0, .bool false, .int .i64 0]) := ⟨Tryz.t71, Tryz.type71, rfl, .inl ⟨_, Tryz.underlying71, rfl⟩⟩
instance n72 : TyN Tryz.prog 72 3 24 (.agg #[.int .i64 0, .bool false, .int .i64 0]) := ⟨Tryz.t72, Tryz.type72, rfl, rfl, rfl⟩
instance g72 : TyG Tryz.prog 72 true 3 := ⟨_, Tryz.t72, Tryz.underlying72, Tryz.type72, rfl, rfl⟩
instance f72_0 : TyF Tryz.prog 72 0 0 := ⟨_, _, Tryz.t3, Tryz.underlying72, rfl, rfl, Tryz.type3, by decide⟩
instance f72_1 : TyF Tryz.prog 72 1 1 := ⟨_, _, Tryz.t4, Tryz.underlying72, rfl, rfl, Tryz.type4, by decide⟩
instance f72_2 : TyF Tryz.prog 72 2 2 := ⟨_, _, Tryz.t3, Tryz.underlying72, rfl, rfl, Tryz.type3, by decide⟩
instance b72 : TyB Tryz.prog 72 [(0, 1), (1, 1), (2, 1)] (.agg #[.int .i64 0, .bool false, .int .i64 0]) := ⟨Tryz.t72, Tryz.type72, rfl, .inl ⟨_, Tryz.underlying72, rfl⟩⟩
instance n73 : TyN Tryz.prog 73 2 32 (.agg #[.int .i64 0, .slice none 0 0]) := ⟨Tryz.t73, Tryz.type73, rfl, rfl, rfl⟩
instance g73 : TyG Tryz.prog 73 true 2 := ⟨_, Tryz.t73, Tryz.underlying73, Tryz.type73, rfl, rfl⟩
instance f73_0 : TyF Tryz.prog 73 0 0 := ⟨_, _, Tryz.t3, Tryz.underlying73, rfl, rfl, Tryz.type3, by decide⟩
instance f73_1 : TyF Tryz.prog 73 1 1 := ⟨_, _, Tryz.t31, Tryz.underlying73, rfl, rfl, Tryz.type31, by decide⟩
instance b73 : TyB Tryz.prog 73 [(0, 1), (1, 1)] (.agg #[.int .i64 0, .slice none 0 0]) := ⟨Tryz.t73, Tryz.type73, rfl, .inl ⟨_, Tryz.underlying73, rfl⟩⟩
instance n74 : TyN Tryz.prog 74 2 32 (.agg #[.int .i64 0, .slice none 0 0]) := ⟨Tryz.t74, Tryz.type74, rfl, rfl, rfl⟩
instance g74 : TyG Tryz.prog 74 true 2 := ⟨_, Tryz.t74, Tryz.underlying74, Tryz.type74, rfl, rfl⟩
instance f74_0 : TyF Tryz.prog 74 0 0 := ⟨_, _, Tryz.t3, Tryz.underlying74, rfl, rfl, Tryz.type3, by decide⟩
instance f74_1 : TyF Tryz.prog 74 1 1 := ⟨_, _, Tryz.t31, Tryz.underlying74, rfl, rfl, Tryz.type31, by decide⟩
instance b74 : TyB Tryz.prog 74 [(0, 1), (1, 1)] (.agg #[.int .i64 0, .slice none 0 0]) := ⟨Tryz.t74, Tryz.type74, rfl, .inl ⟨_, Tryz.underlying74, rfl⟩⟩
instance n76 : TyN Tryz.prog 76 1 8 (.nilFunc) := ⟨Tryz.t76, Tryz.type76, rfl, rfl, rfl⟩
instance g76 : TyG Tryz.prog 76 false 1 := ⟨_, Tryz.t76, Tryz.underlying76, Tryz.type76, rfl, rfl⟩
instance n77 : TyN Tryz.prog 77 9 120 (.agg #[.int .i64 0, .int .i64 0, .int .i64 0, .int .i64 0, .slice none 0 0, .slice none 0 0, .slice none 0 0, .int .i64 0, .int .i64 0]) := ⟨Tryz.t77, Tryz.type77, rfl, rfl, rfl⟩
instance g77 : TyG Tryz.prog 77 true 9 := ⟨_, Tryz.t77, Tryz.underlying77, Tryz.type77, rfl, rfl⟩
instance f77_0 : TyF Tryz.prog 77 0 0 := ⟨_, _, Tryz.t3, Tryz.underlying77, rfl, rfl, Tryz.type3, by decide⟩
instance f77_1 : TyF Tryz.prog 77 1 1 := ⟨_, _, Tryz.t41, Tryz.underlying77, rfl, rfl, Tryz.type41, by decide⟩
instance f77_2 : TyF Tryz.prog 77 2 7 := ⟨_, _, Tryz.t3, Tryz.underlying77, rfl, rfl, Tryz.type3, by decide⟩
instance f77_3 : TyF Tryz.prog 77 3 8 := ⟨_, _, Tryz.t3, Tryz.underlying77, rfl, rfl, Tryz.type3, by decide⟩
instance b77 : TyB Tryz.prog 77 [(0, 1), (1, 6), (7, 1), (8, 1)] (.agg #[.int .i64 0, .int .i64 0, .int .i64 0, .int .i64 0, .slice none 0 0, .slice none 0 0, .slice none 0 0, .int .i64 0, .int .i64 0]) := ⟨Tryz.t77, Tryz.type77, rfl, .inl ⟨_, Tryz.underlying77, rfl⟩⟩
instance n78 : TyN Tryz.prog 78 9 120 (.agg #[.int .i64 0, .int .i64 0, .int .i64 0, .int .i64 0, .slice none 0 0, .slice none 0 0, .slice none 0 0, .int .i64 0, .int .i64 0]) := ⟨Tryz.t78, Tryz.type78, rfl, rfl, rfl⟩
instance g78 : TyG Tryz.prog 78 true 9 := ⟨_, Tryz.t78, Tryz.underlying78, Tryz.type78, rfl, rfl⟩
instance f78_0 : TyF Tryz.prog 78 0 0 := ⟨_, _, Tryz.t3, Tryz.underlying78, rfl, rfl, Tryz.type3, by decide⟩
instance f78_1 : TyF Tryz.prog 78 1 1 := ⟨_, _, Tryz.t41, Tryz.underlying78, rfl, rfl, Tryz.type41, by decide⟩
instance f78_2 : TyF Tryz.prog 78 2 7 := ⟨_, _, Tryz.t3, Tryz.underlying78, rfl, rfl, Tryz.type3, by decide⟩
instance f78_3 : TyF Tryz.prog 78 3 8 := ⟨_, _, Tryz.t3, Tryz.underlying78, rfl, rfl, Tryz.type3, by decide⟩
instance b78 : TyB Tryz.prog 78 [(0, 1), (1, 6), (7, 1), (8, 1)] (.agg #[.int .i64 0, .int .i64 0, .int .i64 0, .int .i64 0, .slice none 0 0, .slice none 0 0, .slice none 0 0, .int .i64 0, .int .i64 0]) := ⟨Tryz.t78, Tryz.type78, rfl, .inl ⟨_, Tryz.underlying78, rfl⟩⟩
instance n80 : TyN Tryz.prog 80 1 8 (.nilFunc) := ⟨Tryz.t80, Tryz.type80, rfl, rfl, rfl⟩
instance g80 : TyG Tryz.prog 80 false 1 := ⟨_, Tryz.t80, Tryz.underlying80, Tryz.type80, rfl, rfl⟩
instance n82 : TyN Tryz.prog 82 1 8 (.nilFunc) := ⟨Tryz.t82, Tryz.type82, rfl, rfl, rfl⟩
instance g82 : TyG Tryz.prog 82 false 1 := ⟨_, Tryz.t82, Tryz.underlying82, Tryz.type82, rfl, rfl⟩
instance n83 : TyN Tryz.prog 83 1 8 (.nilFunc) := ⟨Tryz.t83, Tryz.type83, rfl, rfl, rfl⟩
instance g83 : TyG Tryz.prog 83 false 1 := ⟨_, Tryz.t83, Tryz.underlying83, Tryz.type83, rfl, rfl⟩
instance d84 : TyD Tryz.prog 84 (.slice 140) := ⟨Tryz.underlying84⟩
instance n84 : TyN Tryz.prog 84 1 24 (.slice none 0 0) := ⟨Tryz.t84, Tryz.type84, rfl, rfl, rfl⟩
instance g84 : TyG Tryz.prog 84 false 1 := ⟨_, Tryz.t84, Tryz.underlying84, Tryz.type84, rfl, rfl⟩
instance s84 : TyS Tryz.prog 84 140 9 136 (.agg #[.slice none 0 0, .int .i64 0, .int .i64 0, .int .i64 0, .slice none 0 0, .slice none 0 0, .slice none 0 0, .int .i64 0, .int .i64 0]) := ⟨Tryz.underlying84, Tryz.t140, Tryz.type140, rfl, rfl, rfl⟩
instance d85 : TyD Tryz.prog 85 (.array 3 3) := ⟨Tryz.underlying85⟩
instance n85 : TyN Tryz.prog 85 3 24 (.agg #[.int .i64 0, .int .i64 0, .int .i64 0]) := ⟨Tryz.t85, Tryz.type85, rfl, rfl, rfl⟩
instance g85 : TyG Tryz.prog 85 true 3 := ⟨_, Tryz.t85, Tryz.underlying85, Tryz.type85, rfl, rfl⟩
instance l85 : TyL Tryz.prog 85 3 1 := ⟨3, Tryz.t3, Tryz.underlying85, Tryz.type3, rfl⟩
instance b85 : TyB Tryz.prog 85 [(0, 1), (1, 1), (2, 1)] (.agg #[.int .i64 0, .int .i64 0, .int .i64 0]) := ⟨Tryz.t85, Tryz.type85, rfl, .inr ⟨3, 3, Tryz.t3, Tryz.underlying85, Tryz.type3, rfl⟩⟩
instance d86 : TyD Tryz.prog 86 (.array 3 22) := ⟨Tryz.underlying86⟩
instance n86 : TyN Tryz.prog 86 3 72 (.agg #[.slice none 0 0, .slice none 0 0, .slice none 0 0]) := ⟨Tryz.t86, Tryz.type86, rfl, rfl, rfl⟩
instance g86 : TyG Tryz.prog 86 true 3 := ⟨_, Tryz.t86, Tryz.underlying86, Tryz.type86, rfl, rfl⟩
instance l86 : TyL Tryz.prog 86 3 1 := ⟨22, Tryz.t22, Tryz.underlying86, Tryz.type22, rfl⟩
instance b86 : TyB Tryz.prog 86 [(0, 1), (1, 1), (2, 1)] (.agg #[.slice none 0 0, .slice none 0 0, .slice none 0 0]) := ⟨Tryz.t86, Tryz.type86, rfl, .inr ⟨3, 22, Tryz.t22, Tryz.underlying86, Tryz.type22, rfl⟩⟩
instance n87 : TyN Tryz.prog 87 1 8 (.nilFunc) := ⟨Tryz.t87, Tryz.type87, rfl, rfl, rfl⟩
instance g87 : TyG Tryz.prog 87 false 1 := ⟨_, Tryz.t87, Tryz.underlying87, Tryz.type87, rfl, rfl⟩
instance n88 : TyN Tryz.prog 88 1 8 (.nilFunc) := ⟨Tryz.t88, Tryz.type88, rfl, rfl, rfl⟩
instance g88 : TyG Tryz.prog 88 false 1 := ⟨_, Tryz.t88, Tryz.underlying88, Tryz.type88, rfl, rfl⟩
instance n89 : TyN Tryz.prog 89 1 8 (.nilFunc) := ⟨Tryz.t89, Tryz.type89, rfl, rfl, rfl⟩
instance g89 : TyG Tryz.prog 89 false 1 := ⟨_, Tryz.t89, Tryz.underlying89, Tryz.type89, rfl, rfl⟩
instance n91 : TyN Tryz.prog 91 1 8 (.nilFunc) := ⟨Tryz.t91, Tryz.type91, rfl, rfl, rfl⟩
instance g91 : TyG Tryz.prog 91 false 1 := ⟨_, Tryz.t91, Tryz.underlying91, Tryz.type91, rfl, rfl⟩
instance n92 : TyN Tryz.prog 92 1 8 (.nilFunc) := ⟨Tryz.t92, Tryz.type92, rfl, rfl, rfl⟩
instance g92 : TyG Tryz.prog 92 false 1 := ⟨_, Tryz.t92, Tryz.underlying92, Tryz.type92, rfl, rfl⟩
instance n94 : TyN Tryz.prog 94 1 8 (.nilFunc) := ⟨Tryz.t94, Tryz.type94, rfl, rfl, rfl⟩
instance g94 : TyG Tryz.prog 94 false 1 := ⟨_, Tryz.t94, Tryz.underlying94, Tryz.type94, rfl, rfl⟩
instance n96 : TyN Tryz.prog 96 1 8 (.nilFunc) := ⟨Tryz.t96, Tryz.type96, rfl, rfl, rfl⟩
instance g96 : TyG Tryz.prog 96 false 1 := ⟨_, Tryz.t96, Tryz.underlying96, Tryz.type96, rfl, rfl⟩
instance d97 : TyD Tryz.prog 97 (.int .u64) := ⟨Tryz.underlying97⟩
instance n97 : TyN Tryz.prog 97 1 8 (.int .u64 0) := ⟨Tryz.t97, Tryz.type97, rfl, rfl, rfl⟩
instance g97 : TyG Tryz.prog 97 false 1 := ⟨_, Tryz.t97, Tryz.underlying97, Tryz.type97, rfl, rfl⟩
instance d98 : TyD Tryz.prog 98 (.slice 100) := ⟨Tryz.underlying98⟩
instance n98 : TyN Tryz.prog 98 1 24 (.slice none 0 0) := ⟨Tryz.t98, Tryz.type98, rfl, rfl, rfl⟩
instance g98 : TyG Tryz.prog 98 false 1 := ⟨_, Tryz.t98, Tryz.underlying98, Tryz.type98, rfl, rfl⟩
instance s98 : TyS Tryz.prog 98 100 4 64 (.agg #[.int .i64 0, .int .u64 0, .slice none 0 0, .slice none 0 0]) := ⟨Tryz.underlying98, Tryz.t100, Tryz.type100, rfl, rfl, rfl⟩
instance n99 : TyN Tryz.prog 99 4 64 (.agg #[.int .i64 0, .int .u64 0, .slice none 0 0, .slice none 0 0]) := ⟨Tryz.t99, Tryz.type99, rfl, rfl, rfl⟩
instance g99 : TyG Tryz.prog 99 true 4 := ⟨_, Tryz.t99, Tryz.underlying99, Tryz.type99, rfl, rfl⟩
instance f99_0 : TyF Tryz.prog 99 0 0 := ⟨_, _, Tryz.t3, Tryz.underlying99, rfl, rfl, Tryz.type3, by decide⟩
instance f99_1 : TyF Tryz.prog 99 1 1 := ⟨_, _, Tryz.t97, Tryz.underlying99, rfl, rfl, Tryz.type97, by decide⟩
instance f99_2 : TyF Tryz.prog 99 2 2 := ⟨_, _, Tryz.t31, Tryz.underlying99, rfl, rfl, Tryz.type31, by decide⟩
instance f99_3 : TyF Tryz.prog 99 3 3 := ⟨_, _, Tryz.t98, Tryz.underlying99, rfl, rfl, Tryz.type98, by decide⟩
instance b99 : TyB Tryz.prog 99 [(0, 1), (1, 1), (2, 1), (3, 1)] (.agg #[.int .i64 0, .int .u64 0, .slice none 0 0, .slice none 0 0]) := ⟨Tryz.t99, Tryz.type99, rfl, .inl ⟨_, Tryz.underlying99, rfl⟩⟩
instance n100 : TyN Tryz.prog 100 4 64 (.agg #[.int .i64 0, .int .u64 0, .slice none 0 0, .slice none 0 0]) := ⟨Tryz.t100, Tryz.type100, rfl, rfl, rfl⟩
instance g100 : TyG Tryz.prog 100 true 4 := ⟨_, Tryz.t100, Tryz.underlying100, Tryz.type100, rfl, rfl⟩
instance f100_0 : TyF Tryz.prog 100 0 0 := ⟨_, _, Tryz.t3, Tryz.underlying100, rfl, rfl, Tryz.type3, by decide⟩
instance f100_1 : TyF Tryz.prog 100 1 1 := ⟨_, _, Tryz.t97, Tryz.underlying100, rfl, rfl, Tryz.type97, by decide⟩
instance f100_2 : TyF Tryz.prog 100 2 2 := ⟨_, _, Tryz.t31, Tryz.underlying100, rfl, rfl, Tryz.type31, by decide⟩
instance f100_3 : TyF Tryz.prog 100 3 3 := ⟨_, _, Tryz.t98, Tryz.underlying100, rfl, rfl, Tryz.type98, by decide⟩
instance b100 : TyB Tryz.prog 100 [(0, 1), (1, 1), (2, 1), (3, 1)] (.agg #[.int .i64 0, .int .u64 0, .slice none 0 0, .slice none 0 0]) := ⟨Tryz.t100, Tryz.type100, rfl, .inl ⟨_, Tryz.underlying100, rfl⟩⟩
instance n101 : TyN Tryz.prog 101 1 8 (.nilFunc) := ⟨Tryz.t101, Tryz.type101, rfl, rfl, rfl⟩
instance g101 : TyG Tryz.prog 101 false 1 := ⟨_, Tryz.t101, Tryz.underlying101, Tryz.type101, rfl, rfl⟩
instance n103 : TyN Tryz.prog 103 1 8 (.nilFunc) := ⟨Tryz.t103, Tryz.type103, rfl, rfl, rfl⟩
instance g103 : TyG Tryz.prog 103 false 1 := ⟨_, Tryz.t103, Tryz.underlying103, Tryz.type103, rfl, rfl⟩
instance n104 : TyN Tryz.prog 104 2 32 (.agg #[.slice none 0 0, .int .i64 0]) := ⟨Tryz.t104, Tryz.type104, rfl, rfl, rfl⟩
instance g104 : TyG Tryz.prog 104 true 2 := ⟨_, Tryz.t104, Tryz.underlying104, Tryz.type104, rfl, rfl⟩
instance f104_0 : TyF Tryz.prog 104 0 0 := ⟨_, _, Tryz.t22, Tryz.underlying104, rfl, rfl, Tryz.type22, by decide⟩
instance f104_1 : TyF Tryz.prog 104 1 1 := ⟨_, _, Tryz.t3, Tryz.underlying104, rfl, rfl, Tryz.type3, by decide⟩
instance b104 : TyB Tryz.prog 104 [(0, 1), (1, 1)] (.agg #[.slice none 0 0, .int .i64 0]) := ⟨Tryz.t104, Tryz.type104, rfl, .inl ⟨_, Tryz.underlying104, rfl⟩⟩
instance n105 : TyN Tryz.prog 105 2 32 (.agg #[.slice none 0 0, .int .i64 0]) := ⟨Tryz.t105, Tryz.type105, rfl, rfl, rfl⟩
instance g105 : TyG Tryz.prog 105 true 2 := ⟨_, Tryz.t105, Tryz.underlying105, Tryz.type105, rfl, rfl⟩
instance f105_0 : TyF Tryz.prog 105 0 0 := ⟨_, _, Tryz.t22, Tryz.underlying105, rfl, rfl, Tryz.type22, by decide⟩
instance f105_1 : TyF Tryz.prog 105 1 1 := ⟨_, _, Tryz.t3, Tryz.underlying105, rfl, rfl, Tryz.type3, by decide⟩
instance b105 : TyB Tryz.prog 105 [(0, 1), (1, 1)] (.agg #[.slice none 0 0, .int .i64 0]) := ⟨Tryz.t105, Tryz.type105, rfl, .inl ⟨_, Tryz.underlying105, rfl⟩⟩
instance n106 : TyN Tryz.prog 106 1 8 (.nilFunc) := ⟨Tryz.t106, Tryz.type106, rfl, rfl, rfl⟩
instance g106 : TyG Tryz.prog 106 false 1 := ⟨_, Tryz.t106, Tryz.underlying106, Tryz.type106, rfl, rfl⟩
instance n107 : TyN Tryz.prog 107 1 8 (.nilFunc) := ⟨Tryz.t107, Tryz.type107, rfl, rfl, rfl⟩
instance g107 : TyG Tryz.prog 107 false 1 := ⟨_, Tryz.t107, Tryz.underlying107, Tryz.type107, rfl, rfl⟩
instance n108 : TyN Tryz.prog 108 1 8 (.nilFunc) := ⟨Tryz.t108, Tryz.type108, rfl, rfl, rfl⟩
instance g108 : TyG Tryz.prog 108 false 1 := ⟨_, Tryz.t108, Tryz.underlying108, Tryz.type108, rfl, rfl⟩
instance n109 : TyN Tryz.prog 109 1 8 (.nilFunc) := ⟨Tryz.t109, Tryz.type109, rfl, rfl, rfl⟩
instance g109 : TyG Tryz.prog 109 false 1 := ⟨_, Tryz.t109, Tryz.underlying109, Tryz.type109, rfl, rfl⟩
instance n110 : TyN Tryz.prog 110 1 8 (.nilFunc) := ⟨Tryz.t110, Tryz.type110, rfl, rfl, rfl⟩
instance g110 : TyG Tryz.prog 110 false 1 := ⟨_, Tryz.t110, Tryz.underlying110, Tryz.type110, rfl, rfl⟩
instance n111 : TyN Tryz.prog 111 1 8 (.nilFunc) := ⟨Tryz.t111, Tryz.type111, rfl, rfl, rfl⟩
instance g111 : TyG Tryz.prog 111 false 1 := ⟨_, Tryz.t111, Tryz.underlying111, Tryz.type111, rfl, rfl⟩
instance d112 : TyD Tryz.prog 112 (.slice 31) := ⟨Tryz.underlying112⟩
instance n112 : TyN Tryz.prog 112 1 24 (.slice none 0 0) := ⟨Tryz.t112, Tryz.type112, rfl, rfl, rfl⟩
instance g112 : TyG Tryz.prog 112 false 1 := ⟨_, Tryz.t112, Tryz.underlying112, Tryz.type112, rfl, rfl⟩
instance s112 : TyS Tryz.prog 112 31 1 24 (.slice none 0 0) := ⟨Tryz.underlying112, Tryz.t31, Tryz.type31, rfl, rfl, rfl⟩
instance n113 : TyN Tryz.prog 113 1 8 (.nilFunc) := ⟨Tryz.t113, Tryz.type113, rfl, rfl, rfl⟩
instance g113 : TyG Tryz.prog 113 false 1 := ⟨_, Tryz.t113, Tryz.underlying113, Tryz.type113, rfl, rfl⟩
instance n114 : TyN Tryz.prog 114 1 8 (.nilFunc) := ⟨Tryz.t114, Tryz.type114, rfl, rfl, rfl⟩
instance g114 : TyG Tryz.prog 114 false 1 := ⟨_, Tryz.t114, Tryz.underlying114, Tryz.type114, rfl, rfl⟩
instance d115 : TyD Tryz.prog 115 (.int .u64) := ⟨Tryz.underlying115⟩
instance n115 : TyN Tryz.prog 115 1 8 (.int .u64 0) := ⟨Tryz.t115, Tryz.type115, rfl, rfl, rfl⟩
instance g115 : TyG Tryz.prog 115 false 1 := ⟨_, Tryz.t115, Tryz.underlying115, Tryz.type115, rfl, rfl⟩
instance n116 : TyN Tryz.prog 116 1 8 (.nilFunc) := ⟨Tryz.t116, Tryz.type116, rfl, rfl, rfl⟩
instance g116 : TyG Tryz.prog 116 false 1 := ⟨_, Tryz.t116, Tryz.underlying116, Tryz.type116, rfl, rfl⟩
instance n117 : TyN Tryz.prog 117 1 8 (.nilFunc) := ⟨Tryz.t117, Tryz.type117, rfl, rfl, rfl⟩
instance g117 : TyG Tryz.prog 117 false 1 := ⟨_, Tryz.t117, Tryz.underlying117, Tryz.type117, rfl, rfl⟩
instance n118 : TyN Tryz.prog 118 1 8 (.nilFunc) := ⟨Tryz.t118, Tryz.type118, rfl, rfl, rfl⟩
instance g118 : TyG Tryz.prog 118 false 1 := ⟨_, Tryz.t118, Tryz.underlying118, Tryz.type118, rfl, rfl⟩
instance n119 : TyN Tryz.prog 119 1 8 (.nilFunc) := ⟨Tryz.t119, Tryz.type119, rfl, rfl, rfl⟩
instance g119 : TyG Tryz.prog 119 false 1 := ⟨_, Tryz.t119, Tryz.underlying119, Tryz.type119, rfl, rfl⟩
instance n120 : TyN Tryz.prog 120 1 8 (.nilFunc) := ⟨Tryz.t120, Tryz.type120, rfl, rfl, rfl⟩
instance g120 : TyG Tryz.prog 120 false 1 := ⟨_, Tryz.t120, Tryz.underlying120, Tryz.type120, rfl, rfl⟩
instance n121 : TyN Tryz.prog 121 3 24 (.agg #[.int .i64 0, .int .i64 0, .int .i64 0]) := ⟨Tryz.t121, Tryz.type121, rfl, rfl, rfl⟩
instance g121 : TyG Tryz.prog 121 true 3 := ⟨_, Tryz.t121, Tryz.underlying121, Tryz.type121, rfl, rfl⟩
instance f121_0 : TyF Tryz.prog 121 0 0 := ⟨_, _, Tryz.t3, Tryz.underlying121, rfl, rfl, Tryz.type3, by decide⟩
instance f121_1 : TyF Tryz.prog 121 1 1 := ⟨_, _, Tryz.t3, Tryz.underlying121, rfl, rfl, Tryz.type3, by decide⟩
instance f121_2 : TyF Tryz.prog 121 2 2 := ⟨_, _, Tryz.t3, Tryz.underlying121, rfl, rfl, Tryz.type3, by decide⟩
instance b121 : TyB Tryz.prog 121 [(0, 1), (1, 1), (2, 1)] (.agg #[.int .i64 0, .int .i64 0, .int .i64 0]) := ⟨Tryz.t121, Tryz.type121, rfl, .inl ⟨_, Tryz.underlying121, rfl⟩⟩
instance n122 : TyN Tryz.prog 122 3 24 (.agg #[.int .i64 0, .int .i64 0, .int .i64 0]) := ⟨Tryz.t122, Tryz.type122, rfl, rfl, rfl⟩
instance g122 : TyG Tryz.prog 122 true 3 := ⟨_, Tryz.t122, Tryz.underlying122, Tryz.type122, rfl, rfl⟩
instance f122_0 : TyF Tryz.prog 122 0 0 := ⟨_, _, Tryz.t3, Tryz.underlying122, rfl, rfl, Tryz.type3, by decide⟩
instance f122_1 : TyF Tryz.prog 122 1 1 := ⟨_, _, Tryz.t3, Tryz.underlying122, rfl, rfl, Tryz.type3, by decide⟩
instance f122_2 : TyF Tryz.prog 122 2 2 := ⟨_, _, Tryz.t3, Tryz.underlying122, rfl, rfl, Tryz.type3, by decide⟩
instance b122 : TyB Tryz.prog 122 [(0, 1), (1, 1), (2, 1)] (.agg #[.int .i64 0, .int .i64 0, .int .i64 0]) := ⟨Tryz.t122, Tryz.type122, rfl, .inl ⟨_, Tryz.underlying122, rfl⟩⟩
instance n123 : TyN Tryz.prog 123 1 8 (.nilFunc) := ⟨Tryz.t123, Tryz.type123, rfl, rfl, rfl⟩
instance g123 : TyG Tryz.prog 123 false 1 := ⟨_, Tryz.t123, Tryz.underlying123, Tryz.type123, rfl, rfl⟩
instance n124 : TyN Tryz.prog 124 1 8 (.nilFunc) := ⟨Tryz.t124, Tryz.type124, rfl, rfl, rfl⟩
instance g124 : TyG Tryz.prog 124 false 1 := ⟨_, Tryz.t124, Tryz.underlying124, Tryz.type124, rfl, rfl⟩
instance n125 : TyN Tryz.prog 125 10 128 (.agg #[.int .i64 0, .int .i64 0, .int .i64 0, .bool false, .int .i64 0, .int .i64 0, .int .i64 0, .slice none 0 0, .slice none 0 0, .slice none 0 0]) := ⟨Tryz.t125, Tryz.type125, rfl, rfl, rfl⟩
instance g125 : TyG Tryz.prog 125 true 10 := ⟨_, Tryz.t125, Tryz.underlying125, Tryz.type125, rfl, rfl⟩
instance f125_0 : TyF Tryz.prog 125 0 0 := ⟨_, _, Tryz.t3, Tryz.underlying125, rfl, rfl, Tryz.type3, by decide⟩
instance f125_1 : TyF Tryz.prog 125 1 1 := ⟨_, _, Tryz.t3, Tryz.underlying125, rfl, rfl, Tryz.type3, by decide⟩
instance f125_2 : TyF Tryz.prog 125 2 2 := ⟨_, _, Tryz.t3, Tryz.underlying125, rfl, rfl, Tryz.type3, by decide⟩
instance f125_3 : TyF Tryz.prog 125 3 3 := ⟨_, _, Tryz.t4, Tryz.underlying125, rfl, rfl, Tryz.type4, by decide⟩
instance f125_4 : TyF Tryz.prog 125 4 4 := ⟨_, _, Tryz.t41, Tryz.underlying125, rfl, rfl, Tryz.type41, by decide⟩
instance b125 : TyB Tryz.prog 125 [(0, 1), (1, 1), (2, 1), (3, 1), (4, 6)] (.agg #[.int .i64 0, .int .i64 0, .int .i64 0, .bool false, .int .i64 0, .int .i64 0, .int .i64 0, .slice none 0 0, .slice none 0 0, .slice none 0 0]) := ⟨Tryz.t125, Tryz.type125, rfl, .inl ⟨_, Tryz.underlying125, rfl⟩⟩
instance n126 : TyN Tryz.prog 126 10 128 (.agg #[.int .i64 0, .int .i64 0, .int .i64 0, .bool false, .int .i64 0, .int .i64 0, .int .i64 0, .slice none 0 0, .slice none 0 0, .slice none 0 0]) := ⟨Tryz.t126, Tryz.type126, rfl, rfl, rfl⟩
instance g126 : TyG Tryz.prog 126 true 10 := ⟨_, Tryz.t126, Tryz.underlying126, Tryz.type126, rfl, rfl⟩
instance f126_0 : TyF Tryz.prog 126 0 0 := ⟨_, _, Tryz.t3, Tryz.underlying126, rfl, rfl, Tryz.type3, by decide⟩
instance f126_1 : TyF Tryz.prog 126 1 1 := ⟨_, _, Tryz.t3, Tryz.underlying126, rfl, rfl, Tryz.type3, by decide⟩
instance f126_2 : TyF Tryz.prog 126 2 2 := ⟨_, _, Tryz.t3, Tryz.underlying126, rfl, rfl, Tryz.type3, by decide⟩
instance f126_3 : TyF Tryz.prog 126 3 3 := ⟨_, _, Tryz.t4, Tryz.underlying126, rfl, rfl, Tryz.type4, by decide⟩
instance f126_4 : TyF Tryz.prog 126 4 4 := ⟨_, _, Tryz.t41, Tryz.underlying126, rfl, rfl, Tryz.type41, by decide⟩
instance b126 : TyB Tryz.prog 126 [(0, 1), (1, 1), (2, 1), (3, 1), (4, 6)] (.agg #[.int .i64 0, .int .i64 0, .int .i64 0, .bool false, .int .i64 0, .int .i64 0, .int .i64 0, .slice none 0 0, .slice none 0 0, .slice none 0 0]) := ⟨Tryz.t126, Tryz.type126, rfl, .inl ⟨_, Tryz.underlying126, rfl⟩⟩
instance d127 : TyD Tryz.prog 127 (.pointer 126) := ⟨Tryz.underlying127⟩
instance n127 : TyN Tryz.prog 127 1 8 (.pointer none) := ⟨Tryz.t127, Tryz.type127, rfl, rfl, rfl⟩
instance g127 : TyG Tryz.prog 127 false 1 := ⟨_, Tryz.t127, Tryz.underlying127, Tryz.type127, rfl, rfl⟩
instance n128 : TyN Tryz.prog 128 1 8 (.nilFunc) := ⟨Tryz.t128, Tryz.type128, rfl, rfl, rfl⟩
instance g128 : TyG Tryz.prog 128 false 1 := ⟨_, Tryz.t128, Tryz.underlying128, Tryz.type128, rfl, rfl⟩
instance n129 : TyN Tryz.prog 129 1 8 (.nilFunc) := ⟨Tryz.t129, Tryz.type129, rfl, rfl, rfl⟩
instance g129 : TyG Tryz.prog 129 false 1 := ⟨_, Tryz.t129, Tryz.underlying129, Tryz.type129, rfl, rfl⟩
instance n130 : TyN Tryz.prog 130 1 8 (.nilFunc) := ⟨Tryz.t130, Tryz.type130, rfl, rfl, rfl⟩
instance g130 : TyG Tryz.prog 130 false 1 := ⟨_, Tryz.t130, Tryz.underlying130, Tryz.type130, rfl, rfl⟩
instance n131 : TyN Tryz.prog 131 1 8 (.nilFunc) := ⟨Tryz.t131, Tryz.type131, rfl, rfl, rfl⟩
instance g131 : TyG Tryz.prog 131 false 1 := ⟨_, Tryz.t131, Tryz.underlying131, Tryz.type131, rfl, rfl⟩
instance n132 : TyN Tryz.prog 132 4 64 (.agg #[.int .i64 0, .slice none 0 0, .slice none 0 0, .int .i64 0]) := ⟨Tryz.t132, Tryz.type132, rfl, rfl, rfl⟩
instance g132 : TyG Tryz.prog 132 true 4 := ⟨_, Tryz.t132, Tryz.underlying132, Tryz.type132, rfl, rfl⟩
instance f132_0 : TyF Tryz.prog 132 0 0 := ⟨_, _, Tryz.t3, Tryz.underlying132, rfl, rfl, Tryz.type3, by decide⟩
instance f132_1 : TyF Tryz.prog 132 1 1 := ⟨_, _, Tryz.t31, Tryz.underlying132, rfl, rfl, Tryz.type31, by decide⟩
instance f132_2 : TyF Tryz.prog 132 2 2 := ⟨_, _, Tryz.t31, Tryz.underlying132, rfl, rfl, Tryz.type31, by decide⟩
instance f132_3 : TyF Tryz.prog 132 3 3 := ⟨_, _, Tryz.t3, Tryz.underlying132, rfl, rfl, Tryz.type3, by decide⟩
instance b132 : TyB Tryz.prog 132 [(0, 1), (1, 1), (2, 1), (3, 1)] (.agg #[.int .i64 0, .slice none 0 0, .slice none 0 0, .int .i64 0]) := ⟨Tryz.t132, Tryz.type132, rfl, .inl ⟨_, Tryz.underlying132, rfl⟩⟩
instance n133 : TyN Tryz.prog 133 4 64 (.agg #[.int .i64 0, .slice none 0 0, .slice none 0 0, .int .i64 0]) := ⟨Tryz.t133, Tryz.type133, rfl, rfl, rfl⟩
instance g133 : TyG Tryz.prog 133 true 4 := ⟨_, Tryz.t133, Tryz.underlying133, Tryz.type133, rfl, rfl⟩
instance f133_0 : TyF Tryz.prog 133 0 0 := ⟨_, _, Tryz.t3, Tryz.underlying133, rfl, rfl, Tryz.type3, by decide⟩
instance f133_1 : TyF Tryz.prog 133 1 1 := ⟨_, _, Tryz.t31, Tryz.underlying133, rfl, rfl, Tryz.type31, by decide⟩
instance f133_2 : TyF Tryz.prog 133 2 2 := ⟨_, _, Tryz.t31, Tryz.underlying133, rfl, rfl, Tryz.type31, by decide⟩
instance f133_3 : TyF Tryz.prog 133 3 3 := ⟨_, _, Tryz.t3, Tryz.underlying133, rfl, rfl, Tryz.type3, by decide⟩
instance b133 : TyB Tryz.prog 133 [(0, 1), (1, 1), (2, 1), (3, 1)] (.agg #[.int .i64 0, .slice none 0 0, .slice none 0 0, .int .i64 0]) := ⟨Tryz.t133, Tryz.type133, rfl, .inl ⟨_, Tryz.underlying133, rfl⟩⟩
instance n135 : TyN Tryz.prog 135 1 8 (.nilFunc) := ⟨Tryz.t135, Tryz.type135, rfl, rfl, rfl⟩
instance g135 : TyG Tryz.prog 135 false 1 := ⟨_, Tryz.t135, Tryz.underlying135, Tryz.type135, rfl, rfl⟩
instance n136 : TyN Tryz.prog 136 1 8 (.nilFunc) := ⟨Tryz.t136, Tryz.type136, rfl, rfl, rfl⟩
instance g136 : TyG Tryz.prog 136 false 1 := ⟨_, Tryz.t136, Tryz.underlying136, Tryz.type136, rfl, rfl⟩
instance n137 : TyN Tryz.prog 137 1 8 (.nilFunc) := ⟨Tryz.t137, Tryz.type137, rfl, rfl, rfl⟩
instance g137 : TyG Tryz.prog 137 false 1 := ⟨_, Tryz.t137, Tryz.underlying137, Tryz.type137, rfl, rfl⟩
instance n138 : TyN Tryz.prog 138 1 8 (.nilFunc) := ⟨Tryz.t138, Tryz.type138, rfl, rfl, rfl⟩
instance g138 : TyG Tryz.prog 138 false 1 := ⟨_, Tryz.t138, Tryz.underlying138, Tryz.type138, rfl, rfl⟩
instance n139 : TyN Tryz.prog 139 9 136 (.agg #[.slice none 0 0, .int .i64 0, .int .i64 0, .int .i64 0, .slice none 0 0, .slice none 0 0, .slice none 0 0, .int .i64 0, .int .i64 0]) := ⟨Tryz.t139, Tryz.type139, rfl, rfl, rfl⟩
instance g139 : TyG Tryz.prog 139 true 9 := ⟨_, Tryz.t139, Tryz.underlying139, Tryz.type139, rfl, rfl⟩
instance f139_0 : TyF Tryz.prog 139 0 0 := ⟨_, _, Tryz.t31, Tryz.underlying139, rfl, rfl, Tryz.type31, by decide⟩
instance f139_1 : TyF Tryz.prog 139 1 1 := ⟨_, _, Tryz.t41, Tryz.underlying139, rfl, rfl, Tryz.type41, by decide⟩
instance f139_2 : TyF Tryz.prog 139 2 7 := ⟨_, _, Tryz.t3, Tryz.underlying139, rfl, rfl, Tryz.type3, by decide⟩
instance f139_3 : TyF Tryz.prog 139 3 8 := ⟨_, _, Tryz.t3, Tryz.underlying139, rfl, rfl, Tryz.type3, by decide⟩
instance b139 : TyB Tryz.prog 139 [(0, 1), (1, 6), (7, 1), (8, 1)] (.agg #[.slice none 0 0, .int .i64 0, .int .i64 0, .int .i64 0, .slice none 0 0, .slice none 0 0, .slice none 0 0, .int .i64 0, .int .i64 0]) := ⟨Tryz.t139, Tryz.type139, rfl, .inl ⟨_, Tryz.underlying139, rfl⟩⟩
instance n140 : TyN Tryz.prog 140 9 136 (.agg #[.slice none 0 0, .int .i64 0, .int .i64 0, .int .i64 0, .slice none 0 0, .slice none 0 0, .slice none 0 0, .int .i64 0, .int .i64 0]) := ⟨Tryz.t140, Tryz.type140, rfl, rfl, rfl⟩
instance g140 : TyG Tryz.prog 140 true 9 := ⟨_, Tryz.t140, Tryz.underlying140, Tryz.type140, rfl, rfl⟩
instance f140_0 : TyF Tryz.prog 140 0 0 := ⟨_, _, Tryz.t31, Tryz.underlying140, rfl, rfl, Tryz.type31, by decide⟩
instance f140_1 : TyF Tryz.prog 140 1 1 := ⟨_, _, Tryz.t41, Tryz.underlying140, rfl, rfl, Tryz.type41, by decide⟩
instance f140_2 : TyF Tryz.prog 140 2 7 := ⟨_, _, Tryz.t3, Tryz.underlying140, rfl, rfl, Tryz.type3, by decide⟩
instance f140_3 : TyF Tryz.prog 140 3 8 := ⟨_, _, Tryz.t3, Tryz.underlying140, rfl, rfl, Tryz.type3, by decide⟩
instance b140 : TyB Tryz.prog 140 [(0, 1), (1, 6), (7, 1), (8, 1)] (.agg #[.slice none 0 0, .int .i64 0, .int .i64 0, .int .i64 0, .slice none 0 0, .slice none 0 0, .slice none 0 0, .int .i64 0, .int .i64 0]) := ⟨Tryz.t140, Tryz.type140, rfl, .inl ⟨_, Tryz.underlying140, rfl⟩⟩
instance n141 : TyN Tryz.prog 141 1 8 (.nilFunc) := ⟨Tryz.t141, Tryz.type141, rfl, rfl, rfl⟩
instance g141 : TyG Tryz.prog 141 false 1 := ⟨_, Tryz.t141, Tryz.underlying141, Tryz.type141, rfl, rfl⟩
instance n142 : TyN Tryz.prog 142 1 8 (.nilFunc) := ⟨Tryz.t142, Tryz.type142, rfl, rfl, rfl⟩
instance g142 : TyG Tryz.prog 142 false 1 := ⟨_, Tryz.t142, Tryz.underlying142, Tryz.type142, rfl, rfl⟩
instance n143 : TyN Tryz.prog 143 1 8 (.nilFunc) := ⟨Tryz.t143, Tryz.type143, rfl, rfl, rfl⟩
instance g143 : TyG Tryz.prog 143 false 1 := ⟨_, Tryz.t143, Tryz.underlying143, Tryz.type143, rfl, rfl⟩
instance n144 : TyN Tryz.prog 144 1 8 (.nilFunc) := ⟨Tryz.t144, Tryz.type144, rfl, rfl, rfl⟩
instance g144 : TyG Tryz.prog 144 false 1 := ⟨_, Tryz.t144, Tryz.underlying144, Tryz.type144, rfl, rfl⟩
instance n145 : TyN Tryz.prog 145 1 8 (.nilFunc) := ⟨Tryz.t145, Tryz.type145, rfl, rfl, rfl⟩
instance g145 : TyG Tryz.prog 145 false 1 := ⟨_, Tryz.t145, Tryz.underlying145, Tryz.type145, rfl, rfl⟩
instance n146 : TyN Tryz.prog 146 1 8 (.nilFunc) := ⟨Tryz.t146, Tryz.type146, rfl, rfl, rfl⟩
instance g146 : TyG Tryz.prog 146 false 1 := ⟨_, Tryz.t146, Tryz.underlying146, Tryz.type146, rfl, rfl⟩
instance n147 : TyN Tryz.prog 147 1 8 (.nilFunc) := ⟨Tryz.t147, Tryz.type147, rfl, rfl, rfl⟩
instance g147 : TyG Tryz.prog 147 false 1 := ⟨_, Tryz.t147, Tryz.underlying147, Tryz.type147, rfl, rfl⟩
instance n148 : TyN Tryz.prog 148 1 8 (.nilFunc) := ⟨Tryz.t148, Tryz.type148, rfl, rfl, rfl⟩
instance g148 : TyG Tryz.prog 148 false 1 := ⟨_, Tryz.t148, Tryz.underlying148, Tryz.type148, rfl, rfl⟩
instance n149 : TyN Tryz.prog 149 1 8 (.nilFunc) := ⟨Tryz.t149, Tryz.type149, rfl, rfl, rfl⟩
instance g149 : TyG Tryz.prog 149 false 1 := ⟨_, Tryz.t149, Tryz.underlying149, Tryz.type149, rfl, rfl⟩
instance n150 : TyN Tryz.prog 150 3 32 (.agg #[.string ⟨#[]⟩, .int .i64 0, .bool false]) := ⟨Tryz.t150, Tryz.type150, rfl, rfl, rfl⟩
instance g150 : TyG Tryz.prog 150 true 3 := ⟨_, Tryz.t150, Tryz.underlying150, Tryz.type150, rfl, rfl⟩
instance f150_0 : TyF Tryz.prog 150 0 0 := ⟨_, _, Tryz.t9, Tryz.underlying150, rfl, rfl, Tryz.type9, by decide⟩
instance f150_1 : TyF Tryz.prog 150 1 1 := ⟨_, _, Tryz.t3, Tryz.underlying150, rfl, rfl, Tryz.type3, by decide⟩
instance f150_2 : TyF Tryz.prog 150 2 2 := ⟨_, _, Tryz.t4, Tryz.underlying150, rfl, rfl, Tryz.type4, by decide⟩
instance b150 : TyB Tryz.prog 150 [(0, 1), (1, 1), (2, 1)] (.agg #[.string ⟨#[]⟩, .int .i64 0, .bool false]) := ⟨Tryz.t150, Tryz.type150, rfl, .inl ⟨_, Tryz.underlying150, rfl⟩⟩
instance n151 : TyN Tryz.prog 151 3 32 (.agg #[.string ⟨#[]⟩, .int .i64 0, .bool false]) := ⟨Tryz.t151, Tryz.type151, rfl, rfl, rfl⟩
instance g151 : TyG Tryz.prog 151 true 3 := ⟨_, Tryz.t151, Tryz.underlying151, Tryz.type151, rfl, rfl⟩
instance f151_0 : TyF Tryz.prog 151 0 0 := ⟨_, _, Tryz.t9, Tryz.underlying151, rfl, rfl, Tryz.type9, by decide⟩
instance f151_1 : TyF Tryz.prog 151 1 1 := ⟨_, _, Tryz.t3, Tryz.underlying151, rfl, rfl, Tryz.type3, by decide⟩
instance f151_2 : TyF Tryz.prog 151 2 2 := ⟨_, _, Tryz.t4, Tryz.underlying151, rfl, rfl, Tryz.type4, by decide⟩
instance b151 : TyB Tryz.prog 151 [(0, 1), (1, 1), (2, 1)] (.agg #[.string ⟨#[]⟩, .int .i64 0, .bool false]) := ⟨Tryz.t151, Tryz.type151, rfl, .inl ⟨_, Tryz.underlying151, rfl⟩⟩
instance n152 : TyN Tryz.prog 152 1 8 (.nilFunc) := ⟨Tryz.t152, Tryz.type152, rfl, rfl, rfl⟩
instance g152 : TyG Tryz.prog 152 false 1 := ⟨_, Tryz.t152, Tryz.underlying152, Tryz.type152, rfl, rfl⟩
instance n153 : TyN Tryz.prog 153 1 8 (.nilFunc) := ⟨Tryz.t153, Tryz.type153, rfl, rfl, rfl⟩
instance g153 : TyG Tryz.prog 153 false 1 := ⟨_, Tryz.t153, Tryz.underlying153, Tryz.type153, rfl, rfl⟩
instance d154 : TyD Tryz.prog 154 (.slice 9) := ⟨Tryz.underlying154⟩
instance n154 : TyN Tryz.prog 154 1 24 (.slice none 0 0) := ⟨Tryz.t154, Tryz.type154, rfl, rfl, rfl⟩
instance g154 : TyG Tryz.prog 154 false 1 := ⟨_, Tryz.t154, Tryz.underlying154, Tryz.type154, rfl, rfl⟩
instance s154 : TyS Tryz.prog 154 9 1 16 (.string ⟨#[]⟩) := ⟨Tryz.underlying154, Tryz.t9, Tryz.type9, rfl, rfl, rfl⟩
instance n155 : TyN Tryz.prog 155 1 8 (.nilFunc) := ⟨Tryz.t155, Tryz.type155, rfl, rfl, rfl⟩
instance g155 : TyG Tryz.prog 155 false 1 := ⟨_, Tryz.t155, Tryz.underlying155, Tryz.type155, rfl, rfl⟩
instance n156 : TyN Tryz.prog 156 1 8 (.nilFunc) := ⟨Tryz.t156, Tryz.type156, rfl, rfl, rfl⟩
instance g156 : TyG Tryz.prog 156 false 1 := ⟨_, Tryz.t156, Tryz.underlying156, Tryz.type156, rfl, rfl⟩
instance n157 : TyN Tryz.prog 157 1 8 (.nilFunc) := ⟨Tryz.t157, Tryz.type157, rfl, rfl, rfl⟩
instance g157 : TyG Tryz.prog 157 false 1 := ⟨_, Tryz.t157, Tryz.underlying157, Tryz.type157, rfl, rfl⟩
instance n158 : TyN Tryz.prog 158 1 8 (.nilFunc) := ⟨Tryz.t158, Tryz.type158, rfl, rfl, rfl⟩
instance g158 : TyG Tryz.prog 158 false 1 := ⟨_, Tryz.t158, Tryz.underlying158, Tryz.type158, rfl, rfl⟩
instance n159 : TyN Tryz.prog 159 1 8 (.nilFunc) := ⟨Tryz.t159, Tryz.type159, rfl, rfl, rfl⟩
instance g159 : TyG Tryz.prog 159 false 1 := ⟨_, Tryz.t159, Tryz.underlying159, Tryz.type159, rfl, rfl⟩
instance n160 : TyN Tryz.prog 160 1 8 (.nilFunc) := ⟨Tryz.t160, Tryz.type160, rfl, rfl, rfl⟩
instance g160 : TyG Tryz.prog 160 false 1 := ⟨_, Tryz.t160, Tryz.underlying160, Tryz.type160, rfl, rfl⟩
instance n161 : TyN Tryz.prog 161 2 16 (.agg #[.int .i64 0, .int .i64 0]) := ⟨Tryz.t161, Tryz.type161, rfl, rfl, rfl⟩
instance g161 : TyG Tryz.prog 161 true 2 := ⟨_, Tryz.t161, Tryz.underlying161, Tryz.type161, rfl, rfl⟩
instance f161_0 : TyF Tryz.prog 161 0 0 := ⟨_, _, Tryz.t3, Tryz.underlying161, rfl, rfl, Tryz.type3, by decide⟩
instance f161_1 : TyF Tryz.prog 161 1 1 := ⟨_, _, Tryz.t3, Tryz.underlying161, rfl, rfl, Tryz.type3, by decide⟩
instance b161 : TyB Tryz.prog 161 [(0, 1), (1, 1)] (.agg #[.int .i64 0, .int .i64 0]) := ⟨Tryz.t161, Tryz.type161, rfl, .inl ⟨_, Tryz.underlying161, rfl⟩⟩
instance n162 : TyN Tryz.prog 162 2 16 (.agg #[.int .i64 0, .int .i64 0]) := ⟨Tryz.t162, Tryz.type162, rfl, rfl, rfl⟩
instance g162 : TyG Tryz.prog 162 true 2 := ⟨_, Tryz.t162, Tryz.underlying162, Tryz.type162, rfl, rfl⟩
instance f162_0 : TyF Tryz.prog 162 0 0 := ⟨_, _, Tryz.t3, Tryz.underlying162, rfl, rfl, Tryz.type3, by decide⟩
instance f162_1 : TyF Tryz.prog 162 1 1 := ⟨_, _, Tryz.t3, Tryz.underlying162, rfl, rfl, Tryz.type3, by decide⟩
instance b162 : TyB Tryz.prog 162 [(0, 1), (1, 1)] (.agg #[.int .i64 0, .int .i64 0]) := ⟨Tryz.t162, Tryz.type162, rfl, .inl ⟨_, Tryz.underlying162, rfl⟩⟩
instance n163 : TyN Tryz.prog 163 1 8 (.nilFunc) := ⟨Tryz.t163, Tryz.type163, rfl, rfl, rfl⟩
instance g163 : TyG Tryz.prog 163 false 1 := ⟨_, Tryz.t163, Tryz.underlying163, Tryz.type163, rfl, rfl⟩
instance n164 : TyN Tryz.prog 164 1 8 (.nilFunc) := ⟨Tryz.t164, Tryz.type164, rfl, rfl, rfl⟩
instance g164 : TyG Tryz.prog 164 false 1 := ⟨_, Tryz.t164, Tryz.underlying164, Tryz.type164, rfl, rfl⟩
instance n165 : TyN Tryz.prog 165 1 8 (.nilFunc) := ⟨Tryz.t165, Tryz.type165, rfl, rfl, rfl⟩
instance g165 : TyG Tryz.prog 165 false 1 := ⟨_, Tryz.t165, Tryz.underlying165, Tryz.type165, rfl, rfl⟩
instance d166 : TyD Tryz.prog 166 (.array 4 9) := ⟨Tryz.underlying166⟩
instance n166 : TyN Tryz.prog 166 4 64 (.agg #[.string ⟨#[]⟩, .string ⟨#[]⟩, .string ⟨#[]⟩, .string ⟨#[]⟩]) := ⟨Tryz.t166, Tryz.type166, rfl, rfl, rfl⟩
instance g166 : TyG Tryz.prog 166 true 4 := ⟨_, Tryz.t166, Tryz.underlying166, Tryz.type166, rfl, rfl⟩
instance l166 : TyL Tryz.prog 166 4 1 := ⟨9, Tryz.t9, Tryz.underlying166, Tryz.type9, rfl⟩
instance b166 : TyB Tryz.prog 166 [(0, 1), (1, 1), (2, 1), (3, 1)] (.agg #[.string ⟨#[]⟩, .string ⟨#[]⟩, .string ⟨#[]⟩, .string ⟨#[]⟩]) := ⟨Tryz.t166, Tryz.type166, rfl, .inr ⟨4, 9, Tryz.t9, Tryz.underlying166, Tryz.type9, rfl⟩⟩
instance d167 : TyD Tryz.prog 167 (.pointer 151) := ⟨Tryz.underlying167⟩
instance n167 : TyN Tryz.prog 167 1 8 (.pointer none) := ⟨Tryz.t167, Tryz.type167, rfl, rfl, rfl⟩
instance g167 : TyG Tryz.prog 167 false 1 := ⟨_, Tryz.t167, Tryz.underlying167, Tryz.type167, rfl, rfl⟩
instance n168 : TyN Tryz.prog 168 1 8 (.nilFunc) := ⟨Tryz.t168, Tryz.type168, rfl, rfl, rfl⟩
instance g168 : TyG Tryz.prog 168 false 1 := ⟨_, Tryz.t168, Tryz.underlying168, Tryz.type168, rfl, rfl⟩
instance n169 : TyN Tryz.prog 169 1 8 (.nilFunc) := ⟨Tryz.t169, Tryz.type169, rfl, rfl, rfl⟩
instance g169 : TyG Tryz.prog 169 false 1 := ⟨_, Tryz.t169, Tryz.underlying169, Tryz.type169, rfl, rfl⟩
instance n170 : TyN Tryz.prog 170 1 8 (.nilFunc) := ⟨Tryz.t170, Tryz.type170, rfl, rfl, rfl⟩
instance g170 : TyG Tryz.prog 170 false 1 := ⟨_, Tryz.t170, Tryz.underlying170, Tryz.type170, rfl, rfl⟩
instance n171 : TyN Tryz.prog 171 1 8 (.nilFunc) := ⟨Tryz.t171, Tryz.type171, rfl, rfl, rfl⟩
instance g171 : TyG Tryz.prog 171 false 1 := ⟨_, Tryz.t171, Tryz.underlying171, Tryz.type171, rfl, rfl⟩
instance n172 : TyN Tryz.prog 172 1 8 (.nilFunc) := ⟨Tryz.t172, Tryz.type172, rfl, rfl, rfl⟩
instance g172 : TyG Tryz.prog 172 false 1 := ⟨_, Tryz.t172, Tryz.underlying172, Tryz.type172, rfl, rfl⟩
instance n173 : TyN Tryz.prog 173 1 8 (.nilFunc) := ⟨Tryz.t173, Tryz.type173, rfl, rfl, rfl⟩
instance g173 : TyG Tryz.prog 173 false 1 := ⟨_, Tryz.t173, Tryz.underlying173, Tryz.type173, rfl, rfl⟩
instance n174 : TyN Tryz.prog 174 1 16 (.nilIface) := ⟨Tryz.t174, Tryz.type174, rfl, rfl, rfl⟩
instance g174 : TyG Tryz.prog 174 false 1 := ⟨_, Tryz.t174, Tryz.underlying174, Tryz.type174, rfl, rfl⟩
instance n175 : TyN Tryz.prog 175 1 16 (.nilIface) := ⟨Tryz.t175, Tryz.type175, rfl, rfl, rfl⟩
instance g175 : TyG Tryz.prog 175 false 1 := ⟨_, Tryz.t175, Tryz.underlying175, Tryz.type175, rfl, rfl⟩
instance n177 : TyN Tryz.prog 177 1 8 (.nilFunc) := ⟨Tryz.t177, Tryz.type177, rfl, rfl, rfl⟩
instance g177 : TyG Tryz.prog 177 false 1 := ⟨_, Tryz.t177, Tryz.underlying177, Tryz.type177, rfl, rfl⟩
instance d178 : TyD Tryz.prog 178 (.map 179 4) := ⟨Tryz.underlying178⟩
instance n178 : TyN Tryz.prog 178 1 8 (.map none) := ⟨Tryz.t178, Tryz.type178, rfl, rfl, rfl⟩
instance g178 : TyG Tryz.prog 178 false 1 := ⟨_, Tryz.t178, Tryz.underlying178, Tryz.type178, rfl, rfl⟩
instance d179 : TyD Tryz.prog 179 (.array 2 3) := ⟨Tryz.underlying179⟩
instance n179 : TyN Tryz.prog 179 2 16 (.agg #[.int .i64 0, .int .i64 0]) := ⟨Tryz.t179, Tryz.type179, rfl, rfl, rfl⟩
instance g179 : TyG Tryz.prog 179 true 2 := ⟨_, Tryz.t179, Tryz.underlying179, Tryz.type179, rfl, rfl⟩
instance l179 : TyL Tryz.prog 179 2 1 := ⟨3, Tryz.t3, Tryz.underlying179, Tryz.type3, rfl⟩
instance b179 : TyB Tryz.prog 179 [(0, 1), (1, 1)] (.agg #[.int .i64 0, .int .i64 0]) := ⟨Tryz.t179, Tryz.type179, rfl, .inr ⟨2, 3, Tryz.t3, Tryz.underlying179, Tryz.type3, rfl⟩⟩
instance n181 : TyN Tryz.prog 181 1 8 (.nilFunc) := ⟨Tryz.t181, Tryz.type181, rfl, rfl, rfl⟩
instance g181 : TyG Tryz.prog 181 false 1 := ⟨_, Tryz.t181, Tryz.underlying181, Tryz.type181, rfl, rfl⟩
instance n182 : TyN Tryz.prog 182 1 8 (.nilFunc) := ⟨Tryz.t182, Tryz.type182, rfl, rfl, rfl⟩
instance g182 : TyG Tryz.prog 182 false 1 := ⟨_, Tryz.t182, Tryz.underlying182, Tryz.type182, rfl, rfl⟩
instance n183 : TyN Tryz.prog 183 1 8 (.nilFunc) := ⟨Tryz.t183, Tryz.type183, rfl, rfl, rfl⟩
instance g183 : TyG Tryz.prog 183 false 1 := ⟨_, Tryz.t183, Tryz.underlying183, Tryz.type183, rfl, rfl⟩
instance n184 : TyN Tryz.prog 184 1 8 (.nilFunc) := ⟨Tryz.t184, Tryz.type184, rfl, rfl, rfl⟩
instance g184 : TyG Tryz.prog 184 false 1 := ⟨_, Tryz.t184, Tryz.underlying184, Tryz.type184, rfl, rfl⟩
instance n185 : TyN Tryz.prog 185 1 8 (.nilFunc) := ⟨Tryz.t185, Tryz.type185, rfl, rfl, rfl⟩
instance g185 : TyG Tryz.prog 185 false 1 := ⟨_, Tryz.t185, Tryz.underlying185, Tryz.type185, rfl, rfl⟩
instance n186 : TyN Tryz.prog 186 1 8 (.nilFunc) := ⟨Tryz.t186, Tryz.type186, rfl, rfl, rfl⟩
instance g186 : TyG Tryz.prog 186 false 1 := ⟨_, Tryz.t186, Tryz.underlying186, Tryz.type186, rfl, rfl⟩
instance n188 : TyN Tryz.prog 188 1 8 (.nilFunc) := ⟨Tryz.t188, Tryz.type188, rfl, rfl, rfl⟩
instance g188 : TyG Tryz.prog 188 false 1 := ⟨_, Tryz.t188, Tryz.underlying188, Tryz.type188, rfl, rfl⟩
instance d189 : TyD Tryz.prog 189 (.pointer 162) := ⟨Tryz.underlying189⟩
instance n189 : TyN Tryz.prog 189 1 8 (.pointer none) := ⟨Tryz.t189, Tryz.type189, rfl, rfl, rfl⟩
instance g189 : TyG Tryz.prog 189 false 1 := ⟨_, Tryz.t189, Tryz.underlying189, Tryz.type189, rfl, rfl⟩
instance n191 : TyN Tryz.prog 191 1 8 (.nilFunc) := ⟨Tryz.t191, Tryz.type191, rfl, rfl, rfl⟩
instance g191 : TyG Tryz.prog 191 false 1 := ⟨_, Tryz.t191, Tryz.underlying191, Tryz.type191, rfl, rfl⟩
instance n192 : TyN Tryz.prog 192 1 8 (.nilFunc) := ⟨Tryz.t192, Tryz.type192, rfl, rfl, rfl⟩
instance g192 : TyG Tryz.prog 192 false 1 := ⟨_, Tryz.t192, Tryz.underlying192, Tryz.type192, rfl, rfl⟩
instance n194 : TyN Tryz.prog 194 1 8 (.nilFunc) := ⟨Tryz.t194, Tryz.type194, rfl, rfl, rfl⟩
instance g194 : TyG Tryz.prog 194 false 1 := ⟨_, Tryz.t194, Tryz.underlying194, Tryz.type194, rfl, rfl⟩
instance n195 : TyN Tryz.prog 195 1 8 (.nilFunc) := ⟨Tryz.t195, Tryz.type195, rfl, rfl, rfl⟩
instance g195 : TyG Tryz.prog 195 false 1 := ⟨_, Tryz.t195, Tryz.underlying195, Tryz.type195, rfl, rfl⟩
instance n196 : TyN Tryz.prog 196 1 8 (.nilFunc) := ⟨Tryz.t196, Tryz.type196, rfl, rfl, rfl⟩
instance g196 : TyG Tryz.prog 196 false 1 := ⟨_, Tryz.t196, Tryz.underlying196, Tryz.type196, rfl, rfl⟩
instance n198 : TyN Tryz.prog 198 1 8 (.nilFunc) := ⟨Tryz.t198, Tryz.type198, rfl, rfl, rfl⟩
instance g198 : TyG Tryz.prog 198 false 1 := ⟨_, Tryz.t198, Tryz.underlying198, Tryz.type198, rfl, rfl⟩
instance n199 : TyN Tryz.prog 199 1 8 (.nilFunc) := ⟨Tryz.t199, Tryz.type199, rfl, rfl, rfl⟩
instance g199 : TyG Tryz.prog 199 false 1 := ⟨_, Tryz.t199, Tryz.underlying199, Tryz.type199, rfl, rfl⟩
instance n200 : TyN Tryz.prog 200 1 8 (.nilFunc) := ⟨Tryz.t200, Tryz.type200, rfl, rfl, rfl⟩
instance g200 : TyG Tryz.prog 200 false 1 := ⟨_, Tryz.t200, Tryz.underlying200, Tryz.type200, rfl, rfl⟩
instance n201 : TyN Tryz.prog 201 1 8 (.nilFunc) := ⟨Tryz.t201, Tryz.type201, rfl, rfl, rfl⟩
instance g201 : TyG Tryz.prog 201 false 1 := ⟨_, Tryz.t201, Tryz.underlying201, Tryz.type201, rfl, rfl⟩
instance n203 : TyN Tryz.prog 203 1 8 (.nilFunc) := ⟨Tryz.t203, Tryz.type203, rfl, rfl, rfl⟩
instance g203 : TyG Tryz.prog 203 false 1 := ⟨_, Tryz.t203, Tryz.underlying203, Tryz.type203, rfl, rfl⟩
instance n205 : TyN Tryz.prog 205 1 8 (.nilFunc) := ⟨Tryz.t205, Tryz.type205, rfl, rfl, rfl⟩
instance g205 : TyG Tryz.prog 205 false 1 := ⟨_, Tryz.t205, Tryz.underlying205, Tryz.type205, rfl, rfl⟩
instance d206 : TyD Tryz.prog 206 (.int .u32) := ⟨Tryz.underlying206⟩
instance n206 : TyN Tryz.prog 206 1 4 (.int .u32 0) := ⟨Tryz.t206, Tryz.type206, rfl, rfl, rfl⟩
instance g206 : TyG Tryz.prog 206 false 1 := ⟨_, Tryz.t206, Tryz.underlying206, Tryz.type206, rfl, rfl⟩
instance n207 : TyN Tryz.prog 207 1 8 (.nilFunc) := ⟨Tryz.t207, Tryz.type207, rfl, rfl, rfl⟩
instance g207 : TyG Tryz.prog 207 false 1 := ⟨_, Tryz.t207, Tryz.underlying207, Tryz.type207, rfl, rfl⟩
instance d208 : TyD Tryz.prog 208 (.int .u16) := ⟨Tryz.underlying208⟩
instance n208 : TyN Tryz.prog 208 1 2 (.int .u16 0) := ⟨Tryz.t208, Tryz.type208, rfl, rfl, rfl⟩
instance g208 : TyG Tryz.prog 208 false 1 := ⟨_, Tryz.t208, Tryz.underlying208, Tryz.type208, rfl, rfl⟩
instance n210 : TyN Tryz.prog 210 1 8 (.nilFunc) := ⟨Tryz.t210, Tryz.type210, rfl, rfl, rfl⟩
instance g210 : TyG Tryz.prog 210 false 1 := ⟨_, Tryz.t210, Tryz.underlying210, Tryz.type210, rfl, rfl⟩
instance n211 : TyN Tryz.prog 211 1 8 (.nilFunc) := ⟨Tryz.t211, Tryz.type211, rfl, rfl, rfl⟩
instance g211 : TyG Tryz.prog 211 false 1 := ⟨_, Tryz.t211, Tryz.underlying211, Tryz.type211, rfl, rfl⟩
instance n212 : TyN Tryz.prog 212 1 8 (.nilFunc) := ⟨Tryz.t212, Tryz.type212, rfl, rfl, rfl⟩
instance g212 : TyG Tryz.prog 212 false 1 := ⟨_, Tryz.t212, Tryz.underlying212, Tryz.type212, rfl, rfl⟩
instance d213 : TyD Tryz.prog 213 (.array 24 5) := ⟨Tryz.underlying213⟩
instance n213 : TyN Tryz.prog 213 24 24 (.agg #[.int .u8 0, .int .u8 0, .int .u8 0, .int .u8 0, .int .u8 0, .int .u8 0, .int .u8 0, .int .u8 0, .int .u8 0, .int .u8 0, .int .u8 0, .int .u8 0, .int .u8 0, .int .u8 0, .int .u8 0, .int .u8 0, .int .u8 0, .int .u8 0, .int .u8 0, .int .u8 0, .int .u8 0, .int .u8 0, .int .u8 0, .int .u8 0]) := ⟨Tryz.t213, Tryz.type213, rfl, rfl, rfl⟩
instance g213 : TyG Tryz.prog 213 true 24 := ⟨_, Tryz.t213, Tryz.underlying213, Tryz.type213, rfl, rfl⟩
instance l213 : TyL Tryz.prog 213 24 1 := ⟨5, Tryz.t5, Tryz.underlying213, Tryz.type5, rfl⟩
instance b213 : TyB Tryz.prog 213 [(0, 1), (1, 1), (2, 1), (3, 1), (4, 1), (5, 1), (6, 1), (7, 1), (8, 1), (9, 1), (10, 1), (11, 1), (12, 1), (13, 1), (14, 1), (15, 1), (16, 1), (17, 1), (18, 1), (19, 1), (20, 1), (21, 1), (22, 1), (23, 1)] (.agg #[.int .u8 0, .int .u8 0, .int .u8 0, .int .u8 0, .int .u8 0, .int .u8 0, .int .u8 0, .int .u8 0, .int .u8 0, .int .u8 0, .int .u8 0, .int .u8 0, .int .u8 0, .int .u8 0, .int .u8 0, .int .u8 0, .int .u8 0, .int .u8 0, .int .u8 0, .int .u8 0, .int .u8 0, .int .u8 0, .int .u8 0, .int .u8 0]) := ⟨Tryz.t213, Tryz.type213, rfl, .inr ⟨24, 5, Tryz.t5, Tryz.underlying213, Tryz.type5, rfl⟩⟩
instance n214 : TyN Tryz.prog 214 1 8 (.nilFunc) := ⟨Tryz.t214, Tryz.type214, rfl, rfl, rfl⟩
instance g214 : TyG Tryz.prog 214 false 1 := ⟨_, Tryz.t214, Tryz.underlying214, Tryz.type214, rfl, rfl⟩
instance n215 : TyN Tryz.prog 215 1 8 (.nilFunc) := ⟨Tryz.t215, Tryz.type215, rfl, rfl, rfl⟩
instance g215 : TyG Tryz.prog 215 false 1 := ⟨_, Tryz.t215, Tryz.underlying215, Tryz.type215, rfl, rfl⟩
instance n217 : TyN Tryz.prog 217 1 8 (.nilFunc) := ⟨Tryz.t217, Tryz.type217, rfl, rfl, rfl⟩
instance g217 : TyG Tryz.prog 217 false 1 := ⟨_, Tryz.t217, Tryz.underlying217, Tryz.type217, rfl, rfl⟩
instance n218 : TyN Tryz.prog 218 1 8 (.nilFunc) := ⟨Tryz.t218, Tryz.type218, rfl, rfl, rfl⟩
instance g218 : TyG Tryz.prog 218 false 1 := ⟨_, Tryz.t218, Tryz.underlying218, Tryz.type218, rfl, rfl⟩
instance d219 : TyD Tryz.prog 219 (.array 256 4) := ⟨Tryz.underlying219⟩
instance n219 : TyN Tryz.prog 219 256 256 (.agg ⟨List.replicate 256 (.bool false)⟩) := ⟨Tryz.t219, Tryz.type219, rfl, rfl, by kernel_rfl⟩
instance g219 : TyG Tryz.prog 219 true 256 := ⟨_, Tryz.t219, Tryz.underlying219, Tryz.type219, rfl, rfl⟩
instance l219 : TyL Tryz.prog 219 256 1 := ⟨4, Tryz.t4, Tryz.underlying219, Tryz.type4, rfl⟩
instance d220 : TyD Tryz.prog 220 (.array 256 4) := ⟨Tryz.underlying220⟩
instance n220 : TyN Tryz.prog 220 256 256 (.agg ⟨List.replicate 256 (.bool false)⟩) := ⟨Tryz.t220, Tryz.type220, rfl, rfl, by kernel_rfl⟩
instance g220 : TyG Tryz.prog 220 true 256 := ⟨_, Tryz.t220, Tryz.underlying220, Tryz.type220, rfl, rfl⟩
instance l220 : TyL Tryz.prog 220 256 1 := ⟨4, Tryz.t4, Tryz.underlying220, Tryz.type4, rfl⟩
instance n222 : TyN Tryz.prog 222 1 8 (.nilFunc) := ⟨Tryz.t222, Tryz.type222, rfl, rfl, rfl⟩
instance g222 : TyG Tryz.prog 222 false 1 := ⟨_, Tryz.t222, Tryz.underlying222, Tryz.type222, rfl, rfl⟩
instance n223 : TyN Tryz.prog 223 1 8 (.nilFunc) := ⟨Tryz.t223, Tryz.type223, rfl, rfl, rfl⟩
instance g223 : TyG Tryz.prog 223 false 1 := ⟨_, Tryz.t223, Tryz.underlying223, Tryz.type223, rfl, rfl⟩
instance d224 : TyD Tryz.prog 224 (.pointer 220) := ⟨Tryz.underlying224⟩
instance n224 : TyN Tryz.prog 224 1 8 (.pointer none) := ⟨Tryz.t224, Tryz.type224, rfl, rfl, rfl⟩
instance g224 : TyG Tryz.prog 224 false 1 := ⟨_, Tryz.t224, Tryz.underlying224, Tryz.type224, rfl, rfl⟩
instance d225 : TyD Tryz.prog 225 (.int .i64) := ⟨Tryz.underlying225⟩
instance n225 : TyN Tryz.prog 225 1 8 (.int .i64 0) := ⟨Tryz.t225, Tryz.type225, rfl, rfl, rfl⟩
instance g225 : TyG Tryz.prog 225 false 1 := ⟨_, Tryz.t225, Tryz.underlying225, Tryz.type225, rfl, rfl⟩
instance d226 : TyD Tryz.prog 226 (.pointer 245) := ⟨Tryz.underlying226⟩
instance n226 : TyN Tryz.prog 226 1 8 (.pointer none) := ⟨Tryz.t226, Tryz.type226, rfl, rfl, rfl⟩
instance g226 : TyG Tryz.prog 226 false 1 := ⟨_, Tryz.t226, Tryz.underlying226, Tryz.type226, rfl, rfl⟩
instance n227 : TyN Tryz.prog 227 1 8 (.nilFunc) := ⟨Tryz.t227, Tryz.type227, rfl, rfl, rfl⟩
instance g227 : TyG Tryz.prog 227 false 1 := ⟨_, Tryz.t227, Tryz.underlying227, Tryz.type227, rfl, rfl⟩
instance n228 : TyN Tryz.prog 228 1 8 (.nilFunc) := ⟨Tryz.t228, Tryz.type228, rfl, rfl, rfl⟩
instance g228 : TyG Tryz.prog 228 false 1 := ⟨_, Tryz.t228, Tryz.underlying228, Tryz.type228, rfl, rfl⟩
instance n229 : TyN Tryz.prog 229 1 8 (.nilFunc) := ⟨Tryz.t229, Tryz.type229, rfl, rfl, rfl⟩
instance g229 : TyG Tryz.prog 229 false 1 := ⟨_, Tryz.t229, Tryz.underlying229, Tryz.type229, rfl, rfl⟩
instance n231 : TyN Tryz.prog 231 1 8 (.nilFunc) := ⟨Tryz.t231, Tryz.type231, rfl, rfl, rfl⟩
instance g231 : TyG Tryz.prog 231 false 1 := ⟨_, Tryz.t231, Tryz.underlying231, Tryz.type231, rfl, rfl⟩
instance n232 : TyN Tryz.prog 232 1 8 (.nilFunc) := ⟨Tryz.t232, Tryz.type232, rfl, rfl, rfl⟩
instance g232 : TyG Tryz.prog 232 false 1 := ⟨_, Tryz.t232, Tryz.underlying232, Tryz.type232, rfl, rfl⟩
instance d233 : TyD Tryz.prog 233 (.array 256 5) := ⟨Tryz.underlying233⟩
instance n233 : TyN Tryz.prog 233 256 256 (.agg ⟨List.replicate 256 (.int .u8 0)⟩) := ⟨Tryz.t233, Tryz.type233, rfl, rfl, by kernel_rfl⟩
instance g233 : TyG Tryz.prog 233 true 256 := ⟨_, Tryz.t233, Tryz.underlying233, Tryz.type233, rfl, rfl⟩
instance l233 : TyL Tryz.prog 233 256 1 := ⟨5, Tryz.t5, Tryz.underlying233, Tryz.type5, rfl⟩
instance n234 : TyN Tryz.prog 234 2 2 (.agg #[.int .u8 0, .int .u8 0]) := ⟨Tryz.t234, Tryz.type234, rfl, rfl, rfl⟩
instance g234 : TyG Tryz.prog 234 true 2 := ⟨_, Tryz.t234, Tryz.underlying234, Tryz.type234, rfl, rfl⟩
instance f234_0 : TyF Tryz.prog 234 0 0 := ⟨_, _, Tryz.t5, Tryz.underlying234, rfl, rfl, Tryz.type5, by decide⟩
instance f234_1 : TyF Tryz.prog 234 1 1 := ⟨_, _, Tryz.t5, Tryz.underlying234, rfl, rfl, Tryz.type5, by decide⟩
instance b234 : TyB Tryz.prog 234 [(0, 1), (1, 1)] (.agg #[.int .u8 0, .int .u8 0]) := ⟨Tryz.t234, Tryz.type234, rfl, .inl ⟨_, Tryz.underlying234, rfl⟩⟩
instance n235 : TyN Tryz.prog 235 2 2 (.agg #[.int .u8 0, .int .u8 0]) := ⟨Tryz.t235, Tryz.type235, rfl, rfl, rfl⟩
instance g235 : TyG Tryz.prog 235 true 2 := ⟨_, Tryz.t235, Tryz.underlying235, Tryz.type235, rfl, rfl⟩
instance f235_0 : TyF Tryz.prog 235 0 0 := ⟨_, _, Tryz.t5, Tryz.underlying235, rfl, rfl, Tryz.type5, by decide⟩
instance f235_1 : TyF Tryz.prog 235 1 1 := ⟨_, _, Tryz.t5, Tryz.underlying235, rfl, rfl, Tryz.type5, by decide⟩
instance b235 : TyB Tryz.prog 235 [(0, 1), (1, 1)] (.agg #[.int .u8 0, .int .u8 0]) := ⟨Tryz.t235, Tryz.type235, rfl, .inl ⟨_, Tryz.underlying235, rfl⟩⟩
instance d236 : TyD Tryz.prog 236 (.array 16 235) := ⟨Tryz.underlying236⟩
instance n236 : TyN Tryz.prog 236 32 32 (.agg #[.int .u8 0, .int .u8 0, .int .u8 0, .int .u8 0, .int .u8 0, .int .u8 0, .int .u8 0, .int .u8 0, .int .u8 0, .int .u8 0, .int .u8 0, .int .u8 0, .int .u8 0, .int .u8 0, .int .u8 0, .int .u8 0, .int .u8 0, .int .u8 0, .int .u8 0, .int .u8 0, .int .u8 0, .int .u8 0, .int .u8 0, .int .u8 0, .int .u8 0, .int .u8 0, .int .u8 0, .int .u8 0, .int .u8 0, .int .u8 0, .int .u8 0, .int .u8 0]) := ⟨Tryz.t236, Tryz.type236, rfl, rfl, rfl⟩
instance g236 : TyG Tryz.prog 236 true 32 := ⟨_, Tryz.t236, Tryz.underlying236, Tryz.type236, rfl, rfl⟩
instance l236 : TyL Tryz.prog 236 16 2 := ⟨235, Tryz.t235, Tryz.underlying236, Tryz.type235, rfl⟩
instance b236 : TyB Tryz.prog 236 [(0, 2), (2, 2), (4, 2), (6, 2), (8, 2), (10, 2), (12, 2), (14, 2), (16, 2), (18, 2), (20, 2), (22, 2), (24, 2), (26, 2), (28, 2), (30, 2)] (.agg #[.int .u8 0, .int .u8 0, .int .u8 0, .int .u8 0, .int .u8 0, .int .u8 0, .int .u8 0, .int .u8 0, .int .u8 0, .int .u8 0, .int .u8 0, .int .u8 0, .int .u8 0, .int .u8 0, .int .u8 0, .int .u8 0, .int .u8 0, .int .u8 0, .int .u8 0, .int .u8 0, .int .u8 0, .int .u8 0, .int .u8 0, .int .u8 0, .int .u8 0, .int .u8 0, .int .u8 0, .int .u8 0, .int .u8 0, .int .u8 0, .int .u8 0, .int .u8 0]) := ⟨Tryz.t236, Tryz.type236, rfl, .inr ⟨16, 235, Tryz.t235, Tryz.underlying236, Tryz.type235, rfl⟩⟩
instance n237 : TyN Tryz.prog 237 1 8 (.nilFunc) := ⟨Tryz.t237, Tryz.type237, rfl, rfl, rfl⟩
instance g237 : TyG Tryz.prog 237 false 1 := ⟨_, Tryz.t237, Tryz.underlying237, Tryz.type237, rfl, rfl⟩
instance d238 : TyD Tryz.prog 238 (.array 20 97) := ⟨Tryz.underlying238⟩
instance n238 : TyN Tryz.prog 238 20 160 (.agg #[.int .u64 0, .int .u64 0, .int .u64 0, .int .u64 0, .int .u64 0, .int .u64 0, .int .u64 0, .int .u64 0, .int .u64 0, .int .u64 0, .int .u64 0, .int .u64 0, .int .u64 0, .int .u64 0, .int .u64 0, .int .u64 0, .int .u64 0, .int .u64 0, .int .u64 0, .int .u64 0]) := ⟨Tryz.t238, Tryz.type238, rfl, rfl, rfl⟩
instance g238 : TyG Tryz.prog 238 true 20 := ⟨_, Tryz.t238, Tryz.underlying238, Tryz.type238, rfl, rfl⟩
instance l238 : TyL Tryz.prog 238 20 1 := ⟨97, Tryz.t97, Tryz.underlying238, Tryz.type97, rfl⟩
instance b238 : TyB Tryz.prog 238 [(0, 1), (1, 1), (2, 1), (3, 1), (4, 1), (5, 1), (6, 1), (7, 1), (8, 1), (9, 1), (10, 1), (11, 1), (12, 1), (13, 1), (14, 1), (15, 1), (16, 1), (17, 1), (18, 1), (19, 1)] (.agg #[.int .u64 0, .int .u64 0, .int .u64 0, .int .u64 0, .int .u64 0, .int .u64 0, .int .u64 0, .int .u64 0, .int .u64 0, .int .u64 0, .int .u64 0, .int .u64 0, .int .u64 0, .int .u64 0, .int .u64 0, .int .u64 0, .int .u64 0, .int .u64 0, .int .u64 0, .int .u64 0]) := ⟨Tryz.t238, Tryz.type238, rfl, .inr ⟨20, 97, Tryz.t97, Tryz.underlying238, Tryz.type97, rfl⟩⟩
instance d239 : TyD Tryz.prog 239 (.array 65 5) := ⟨Tryz.underlying239⟩
instance n239 : TyN Tryz.prog 239 65 65 (.agg ⟨List.replicate 65 (.int .u8 0)⟩) := ⟨Tryz.t239, Tryz.type239, rfl, rfl, by kernel_rfl⟩
instance g239 : TyG Tryz.prog 239 true 65 := ⟨_, Tryz.t239, Tryz.underlying239, Tryz.type239, rfl, rfl⟩
instance l239 : TyL Tryz.prog 239 65 1 := ⟨5, Tryz.t5, Tryz.underlying239, Tryz.type5, rfl⟩
instance n240 : TyN Tryz.prog 240 1 8 (.nilFunc) := ⟨Tryz.t240, Tryz.type240, rfl, rfl, rfl⟩
instance g240 : TyG Tryz.prog 240 false 1 := ⟨_, Tryz.t240, Tryz.underlying240, Tryz.type240, rfl, rfl⟩
instance n241 : TyN Tryz.prog 241 1 8 (.nilFunc) := ⟨Tryz.t241, Tryz.type241, rfl, rfl, rfl⟩
instance g241 : TyG Tryz.prog 241 false 1 := ⟨_, Tryz.t241, Tryz.underlying241, Tryz.type241, rfl, rfl⟩
instance n242 : TyN Tryz.prog 242 1 8 (.nilFunc) := ⟨Tryz.t242, Tryz.type242, rfl, rfl, rfl⟩
instance g242 : TyG Tryz.prog 242 false 1 := ⟨_, Tryz.t242, Tryz.underlying242, Tryz.type242, rfl, rfl⟩
instance n243 : TyN Tryz.prog 243 1 8 (.nilFunc) := ⟨Tryz.t243, Tryz.type243, rfl, rfl, rfl⟩
instance g243 : TyG Tryz.prog 243 false 1 := ⟨_, Tryz.t243, Tryz.underlying243, Tryz.type243, rfl, rfl⟩
instance n244 : TyN Tryz.prog 244 3 48 (.agg #[.string ⟨#[]⟩, .string ⟨#[]⟩, .nilIface]) := ⟨Tryz.t244, Tryz.type244, rfl, rfl, rfl⟩
instance g244 : TyG Tryz.prog 244 true 3 := ⟨_, Tryz.t244, Tryz.underlying244, Tryz.type244, rfl, rfl⟩
instance f244_0 : TyF Tryz.prog 244 0 0 := ⟨_, _, Tryz.t9, Tryz.underlying244, rfl, rfl, Tryz.type9, by decide⟩
instance f244_1 : TyF Tryz.prog 244 1 1 := ⟨_, _, Tryz.t9, Tryz.underlying244, rfl, rfl, Tryz.type9, by decide⟩
instance f244_2 : TyF Tryz.prog 244 2 2 := ⟨_, _, Tryz.t175, Tryz.underlying244, rfl, rfl, Tryz.type175, by decide⟩
instance b244 : TyB Tryz.prog 244 [(0, 1), (1, 1), (2, 1)] (.agg #[.string ⟨#[]⟩, .string ⟨#[]⟩, .nilIface]) := ⟨Tryz.t244, Tryz.type244, rfl, .inl ⟨_, Tryz.underlying244, rfl⟩⟩
instance n245 : TyN Tryz.prog 245 3 48 (.agg #[.string ⟨#[]⟩, .string ⟨#[]⟩, .nilIface]) := ⟨Tryz.t245, Tryz.type245, rfl, rfl, rfl⟩
instance g245 : TyG Tryz.prog 245 true 3 := ⟨_, Tryz.t245, Tryz.underlying245, Tryz.type245, rfl, rfl⟩
instance f245_0 : TyF Tryz.prog 245 0 0 := ⟨_, _, Tryz.t9, Tryz.underlying245, rfl, rfl, Tryz.type9, by decide⟩
instance f245_1 : TyF Tryz.prog 245 1 1 := ⟨_, _, Tryz.t9, Tryz.underlying245, rfl, rfl, Tryz.type9, by decide⟩
instance f245_2 : TyF Tryz.prog 245 2 2 := ⟨_, _, Tryz.t175, Tryz.underlying245, rfl, rfl, Tryz.type175, by decide⟩
instance b245 : TyB Tryz.prog 245 [(0, 1), (1, 1), (2, 1)] (.agg #[.string ⟨#[]⟩, .string ⟨#[]⟩, .nilIface]) := ⟨Tryz.t245, Tryz.type245, rfl, .inl ⟨_, Tryz.underlying245, rfl⟩⟩
instance n246 : TyN Tryz.prog 246 1 8 (.nilFunc) := ⟨Tryz.t246, Tryz.type246, rfl, rfl, rfl⟩
instance g246 : TyG Tryz.prog 246 false 1 := ⟨_, Tryz.t246, Tryz.underlying246, Tryz.type246, rfl, rfl⟩
instance n247 : TyN Tryz.prog 247 1 8 (.nilFunc) := ⟨Tryz.t247, Tryz.type247, rfl, rfl, rfl⟩
instance g247 : TyG Tryz.prog 247 false 1 := ⟨_, Tryz.t247, Tryz.underlying247, Tryz.type247, rfl, rfl⟩
instance n248 : TyN Tryz.prog 248 1 8 (.nilFunc) := ⟨Tryz.t248, Tryz.type248, rfl, rfl, rfl⟩
instance g248 : TyG Tryz.prog 248 false 1 := ⟨_, Tryz.t248, Tryz.underlying248, Tryz.type248, rfl, rfl⟩
instance d249 : TyD Tryz.prog 249 (.pointer 5) := ⟨Tryz.underlying249⟩
instance n249 : TyN Tryz.prog 249 1 8 (.pointer none) := ⟨Tryz.t249, Tryz.type249, rfl, rfl, rfl⟩
instance g249 : TyG Tryz.prog 249 false 1 := ⟨_, Tryz.t249, Tryz.underlying249, Tryz.type249, rfl, rfl⟩
instance d250 : TyD Tryz.prog 250 (.pointer 252) := ⟨Tryz.underlying250⟩
instance n250 : TyN Tryz.prog 250 1 8 (.pointer none) := ⟨Tryz.t250, Tryz.type250, rfl, rfl, rfl⟩
instance g250 : TyG Tryz.prog 250 false 1 := ⟨_, Tryz.t250, Tryz.underlying250, Tryz.type250, rfl, rfl⟩
instance n251 : TyN Tryz.prog 251 1 16 (.agg #[.string ⟨#[]⟩]) := ⟨Tryz.t251, Tryz.type251, rfl, rfl, rfl⟩
instance g251 : TyG Tryz.prog 251 true 1 := ⟨_, Tryz.t251, Tryz.underlying251, Tryz.type251, rfl, rfl⟩
instance f251_0 : TyF Tryz.prog 251 0 0 := ⟨_, _, Tryz.t9, Tryz.underlying251, rfl, rfl, Tryz.type9, by decide⟩
instance b251 : TyB Tryz.prog 251 [(0, 1)] (.agg #[.string ⟨#[]⟩]) := ⟨Tryz.t251, Tryz.type251, rfl, .inl ⟨_, Tryz.underlying251, rfl⟩⟩
instance n252 : TyN Tryz.prog 252 1 16 (.agg #[.string ⟨#[]⟩]) := ⟨Tryz.t252, Tryz.type252, rfl, rfl, rfl⟩
instance g252 : TyG Tryz.prog 252 true 1 := ⟨_, Tryz.t252, Tryz.underlying252, Tryz.type252, rfl, rfl⟩
instance f252_0 : TyF Tryz.prog 252 0 0 := ⟨_, _, Tryz.t9, Tryz.underlying252, rfl, rfl, Tryz.type9, by decide⟩
instance b252 : TyB Tryz.prog 252 [(0, 1)] (.agg #[.string ⟨#[]⟩]) := ⟨Tryz.t252, Tryz.type252, rfl, .inl ⟨_, Tryz.underlying252, rfl⟩⟩
instance n254 : TyN Tryz.prog 254 1 8 (.nilFunc) := ⟨Tryz.t254, Tryz.type254, rfl, rfl, rfl⟩
instance g254 : TyG Tryz.prog 254 false 1 := ⟨_, Tryz.t254, Tryz.underlying254, Tryz.type254, rfl, rfl⟩
instance d255 : TyD Tryz.prog 255 (.array 32 5) := ⟨Tryz.underlying255⟩
instance n255 : TyN Tryz.prog 255 32 32 (.agg #[.int .u8 0, .int .u8 0, .int .u8 0, .int .u8 0, .int .u8 0, .int .u8 0, .int .u8 0, .int .u8 0, .int .u8 0, .int .u8 0, .int .u8 0, .int .u8 0, .int .u8 0, .int .u8 0, .int .u8 0, .int .u8 0, .int .u8 0, .int .u8 0, .int .u8 0, .int .u8 0, .int .u8 0, .int .u8 0, .int .u8 0, .int .u8 0, .int .u8 0, .int .u8 0, .int .u8 0, .int .u8 0, .int .u8 0, .int .u8 0, .int .u8 0, .int .u8 0]) := ⟨Tryz.t255, Tryz.type255, rfl, rfl, rfl⟩
instance g255 : TyG Tryz.prog 255 true 32 := ⟨_, Tryz.t255, Tryz.underlying255, Tryz.type255, rfl, rfl⟩
instance l255 : TyL Tryz.prog 255 32 1 := ⟨5, Tryz.t5, Tryz.underlying255, Tryz.type5, rfl⟩
instance b255 : TyB Tryz.prog 255 [(0, 1), (1, 1), (2, 1), (3, 1), (4, 1), (5, 1), (6, 1), (7, 1), (8, 1), (9, 1), (10, 1), (11, 1), (12, 1), (13, 1), (14, 1), (15, 1), (16, 1), (17, 1), (18, 1), (19, 1), (20, 1), (21, 1), (22, 1), (23, 1), (24, 1), (25, 1), (26, 1), (27, 1), (28, 1), (29, 1), (30, 1), (31, 1)] (.agg #[.int .u8 0, .int .u8 0, .int .u8 0, .int .u8 0, .int .u8 0, .int .u8 0, .int .u8 0, .int .u8 0, .int .u8 0, .int .u8 0, .int .u8 0, .int .u8 0, .int .u8 0, .int .u8 0, .int .u8 0, .int .u8 0, .int .u8 0, .int .u8 0, .int .u8 0, .int .u8 0, .int .u8 0, .int .u8 0, .int .u8 0, .int .u8 0, .int .u8 0, .int .u8 0, .int .u8 0, .int .u8 0, .int .u8 0, .int .u8 0, .int .u8 0, .int .u8 0]) := ⟨Tryz.t255, Tryz.type255, rfl, .inr ⟨32, 5, Tryz.t5, Tryz.underlying255, Tryz.type5, rfl⟩⟩
instance d256 : TyD Tryz.prog 256 (.array 64 5) := ⟨Tryz.underlying256⟩
instance n256 : TyN Tryz.prog 256 64 64 (.agg #[.int .u8 0, .int .u8 0, .int .u8 0, .int .u8 0, .int .u8 0, .int .u8 0, .int .u8 0, .int .u8 0, .int .u8 0, .int .u8 0, .int .u8 0, .int .u8 0, .int .u8 0, .int .u8 0, .int .u8 0, .int .u8 0, .int .u8 0, .int .u8 0, .int .u8 0, .int .u8 0, .int .u8 0, .int .u8 0, .int .u8 0, .int .u8 0, .int .u8 0, .int .u8 0, .int .u8 0, .int .u8 0, .int .u8 0, .int .u8 0, .int .u8 0, .int .u8 0, .int .u8 0, .int .u8 0, .int .u8 0, .int .u8 0, .int .u8 0, .int .u8 0, .int .u8 0, .int .u8 0, .int .u8 0, .int .u8 0, .int .u8 0, .int .u8 0, .int .u8 0, .int .u8 0, .int .u8 0, .int .u8 0, .int .u8 0, .int .u8 0, .int .u8 0, .int .u8 0, .int .u8 0, .int .u8 0, .int .u8 0, .int .u8 0, .int .u8 0, .int .u8 0, .int .u8 0, .int .u8 0, .int .u8 0, .int .u8 0, .int .u8 0, .int .u8 0]) := ⟨Tryz.t256, Tryz.type256, rfl, rfl, rfl⟩
instance g256 : TyG Tryz.prog 256 true 64 := ⟨_, Tryz.t256, Tryz.underlying256, Tryz.type256, rfl, rfl⟩
instance l256 : TyL Tryz.prog 256 64 1 := ⟨5, Tryz.t5, Tryz.underlying256, Tryz.type5, rfl⟩
instance n257 : TyN Tryz.prog 257 1 8 (.nilFunc) := ⟨Tryz.t257, Tryz.type257, rfl, rfl, rfl⟩
instance g257 : TyG Tryz.prog 257 false 1 := ⟨_, Tryz.t257, Tryz.underlying257, Tryz.type257, rfl, rfl⟩
instance n258 : TyN Tryz.prog 258 1 8 (.nilFunc) := ⟨Tryz.t258, Tryz.type258, rfl, rfl, rfl⟩
instance g258 : TyG Tryz.prog 258 false 1 := ⟨_, Tryz.t258, Tryz.underlying258, Tryz.type258, rfl, rfl⟩
instance n259 : TyN Tryz.prog 259 4 40 (.agg #[.pointer none, .pointer none, .pointer none, .string ⟨#[]⟩]) := ⟨Tryz.t259, Tryz.type259, rfl, rfl, rfl⟩
instance g259 : TyG Tryz.prog 259 true 4 := ⟨_, Tryz.t259, Tryz.underlying259, Tryz.type259, rfl, rfl⟩
instance f259_0 : TyF Tryz.prog 259 0 0 := ⟨_, _, Tryz.t17, Tryz.underlying259, rfl, rfl, Tryz.type17, by decide⟩
instance f259_1 : TyF Tryz.prog 259 1 1 := ⟨_, _, Tryz.t17, Tryz.underlying259, rfl, rfl, Tryz.type17, by decide⟩
instance f259_2 : TyF Tryz.prog 259 2 2 := ⟨_, _, Tryz.t17, Tryz.underlying259, rfl, rfl, Tryz.type17, by decide⟩
instance f259_3 : TyF Tryz.prog 259 3 3 := ⟨_, _, Tryz.t9, Tryz.underlying259, rfl, rfl, Tryz.type9, by decide⟩
instance b259 : TyB Tryz.prog 259 [(0, 1), (1, 1), (2, 1), (3, 1)] (.agg #[.pointer none, .pointer none, .pointer none, .string ⟨#[]⟩]) := ⟨Tryz.t259, Tryz.type259, rfl, .inl ⟨_, Tryz.underlying259, rfl⟩⟩
instance n260 : TyN Tryz.prog 260 4 40 (.agg #[.pointer none, .pointer none, .pointer none, .string ⟨#[]⟩]) := ⟨Tryz.t260, Tryz.type260, rfl, rfl, rfl⟩
instance g260 : TyG Tryz.prog 260 true 4 := ⟨_, Tryz.t260, Tryz.underlying260, Tryz.type260, rfl, rfl⟩
instance f260_0 : TyF Tryz.prog 260 0 0 := ⟨_, _, Tryz.t17, Tryz.underlying260, rfl, rfl, Tryz.type17, by decide⟩
instance f260_1 : TyF Tryz.prog 260 1 1 := ⟨_, _, Tryz.t17, Tryz.underlying260, rfl, rfl, Tryz.type17, by decide⟩
instance f260_2 : TyF Tryz.prog 260 2 2 := ⟨_, _, Tryz.t17, Tryz.underlying260, rfl, rfl, Tryz.type17, by decide⟩
instance f260_3 : TyF Tryz.prog 260 3 3 := ⟨_, _, Tryz.t9, Tryz.underlying260, rfl, rfl, Tryz.type9, by decide⟩
instance b260 : TyB Tryz.prog 260 [(0, 1), (1, 1), (2, 1), (3, 1)] (.agg #[.pointer none, .pointer none, .pointer none, .string ⟨#[]⟩]) := ⟨Tryz.t260, Tryz.type260, rfl, .inl ⟨_, Tryz.underlying260, rfl⟩⟩
instance d261 : TyD Tryz.prog 261 (.array 0 16) := ⟨Tryz.underlying261⟩
instance n261 : TyN Tryz.prog 261 0 0 (.agg #[]) := ⟨Tryz.t261, Tryz.type261, rfl, rfl, rfl⟩
instance g261 : TyG Tryz.prog 261 true 0 := ⟨_, Tryz.t261, Tryz.underlying261, Tryz.type261, rfl, rfl⟩
instance l261 : TyL Tryz.prog 261 0 1 := ⟨16, Tryz.t16, Tryz.underlying261, Tryz.type16, rfl⟩
instance b261 : TyB Tryz.prog 261 [] (.agg #[]) := ⟨Tryz.t261, Tryz.type261, rfl, .inr ⟨0, 16, Tryz.t16, Tryz.underlying261, Tryz.type16, rfl⟩⟩
instance n262 : TyN Tryz.prog 262 0 0 (.agg #[]) := ⟨Tryz.t262, Tryz.type262, rfl, rfl, rfl⟩
instance g262 : TyG Tryz.prog 262 true 0 := ⟨_, Tryz.t262, Tryz.underlying262, Tryz.type262, rfl, rfl⟩
instance b262 : TyB Tryz.prog 262 [(0, 0)] (.agg #[]) := ⟨Tryz.t262, Tryz.type262, rfl, .inl ⟨_, Tryz.underlying262, rfl⟩⟩
instance n263 : TyN Tryz.prog 263 0 0 (.agg #[]) := ⟨Tryz.t263, Tryz.type263, rfl, rfl, rfl⟩
instance g263 : TyG Tryz.prog 263 true 0 := ⟨_, Tryz.t263, Tryz.underlying263, Tryz.type263, rfl, rfl⟩
instance b263 : TyB Tryz.prog 263 [(0, 0)] (.agg #[]) := ⟨Tryz.t263, Tryz.type263, rfl, .inl ⟨_, Tryz.underlying263, rfl⟩⟩
instance n264 : TyN Tryz.prog 264 1 8 (.nilFunc) := ⟨Tryz.t264, Tryz.type264, rfl, rfl, rfl⟩
instance g264 : TyG Tryz.prog 264 false 1 := ⟨_, Tryz.t264, Tryz.underlying264, Tryz.type264, rfl, rfl⟩
instance d265 : TyD Tryz.prog 265 (.int .u8) := ⟨Tryz.underlying265⟩
instance n265 : TyN Tryz.prog 265 1 1 (.int .u8 0) := ⟨Tryz.t265, Tryz.type265, rfl, rfl, rfl⟩
instance g265 : TyG Tryz.prog 265 false 1 := ⟨_, Tryz.t265, Tryz.underlying265, Tryz.type265, rfl, rfl⟩
instance d266 : TyD Tryz.prog 266 (.int .u8) := ⟨Tryz.underlying266⟩
instance n266 : TyN Tryz.prog 266 1 1 (.int .u8 0) := ⟨Tryz.t266, Tryz.type266, rfl, rfl, rfl⟩
instance g266 : TyG Tryz.prog 266 false 1 := ⟨_, Tryz.t266, Tryz.underlying266, Tryz.type266, rfl, rfl⟩
instance n267 : TyN Tryz.prog 267 1 8 (.nilFunc) := ⟨Tryz.t267, Tryz.type267, rfl, rfl, rfl⟩
instance g267 : TyG Tryz.prog 267 false 1 := ⟨_, Tryz.t267, Tryz.underlying267, Tryz.type267, rfl, rfl⟩
instance d268 : TyD Tryz.prog 268 (.int .i32) := ⟨Tryz.underlying268⟩
instance n268 : TyN Tryz.prog 268 1 4 (.int .i32 0) := ⟨Tryz.t268, Tryz.type268, rfl, rfl, rfl⟩
instance g268 : TyG Tryz.prog 268 false 1 := ⟨_, Tryz.t268, Tryz.underlying268, Tryz.type268, rfl, rfl⟩
instance d269 : TyD Tryz.prog 269 (.int .i32) := ⟨Tryz.underlying269⟩
instance n269 : TyN Tryz.prog 269 1 4 (.int .i32 0) := ⟨Tryz.t269, Tryz.type269, rfl, rfl, rfl⟩
instance g269 : TyG Tryz.prog 269 false 1 := ⟨_, Tryz.t269, Tryz.underlying269, Tryz.type269, rfl, rfl⟩
instance n270 : TyN Tryz.prog 270 11 48 (.agg #[.int .u64 0, .int .u64 0, .int .u32 0, .int .u8 0, .int .u8 0, .int .u8 0, .int .u8 0, .nilFunc, .pointer none, .int .i32 0, .int .i32 0]) := ⟨Tryz.t270, Tryz.type270, rfl, rfl, rfl⟩
instance g270 : TyG Tryz.prog 270 true 11 := ⟨_, Tryz.t270, Tryz.underlying270, Tryz.type270, rfl, rfl⟩
instance f270_0 : TyF Tryz.prog 270 0 0 := ⟨_, _, Tryz.t12, Tryz.underlying270, rfl, rfl, Tryz.type12, by decide⟩
instance f270_1 : TyF Tryz.prog 270 1 1 := ⟨_, _, Tryz.t12, Tryz.underlying270, rfl, rfl, Tryz.type12, by decide⟩
instance f270_2 : TyF Tryz.prog 270 2 2 := ⟨_, _, Tryz.t206, Tryz.underlying270, rfl, rfl, Tryz.type206, by decide⟩
instance f270_3 : TyF Tryz.prog 270 3 3 := ⟨_, _, Tryz.t265, Tryz.underlying270, rfl, rfl, Tryz.type265, by decide⟩
instance f270_4 : TyF Tryz.prog 270 4 4 := ⟨_, _, Tryz.t5, Tryz.underlying270, rfl, rfl, Tryz.type5, by decide⟩
instance f270_5 : TyF Tryz.prog 270 5 5 := ⟨_, _, Tryz.t5, Tryz.underlying270, rfl, rfl, Tryz.type5, by decide⟩
instance f270_6 : TyF Tryz.prog 270 6 6 := ⟨_, _, Tryz.t266, Tryz.underlying270, rfl, rfl, Tryz.type266, by decide⟩
instance f270_7 : TyF Tryz.prog 270 7 7 := ⟨_, _, Tryz.t267, Tryz.underlying270, rfl, rfl, Tryz.type267, by decide⟩
instance f270_8 : TyF Tryz.prog 270 8 8 := ⟨_, _, Tryz.t249, Tryz.underlying270, rfl, rfl, Tryz.type249, by decide⟩
instance f270_9 : TyF Tryz.prog 270 9 9 := ⟨_, _, Tryz.t268, Tryz.underlying270, rfl, rfl, Tryz.type268, by decide⟩
instance f270_10 : TyF Tryz.prog 270 10 10 := ⟨_, _, Tryz.t269, Tryz.underlying270, rfl, rfl, Tryz.type269, by decide⟩
instance b270 : TyB Tryz.prog 270 [(0, 1), (1, 1), (2, 1), (3, 1), (4, 1), (5, 1), (6, 1), (7, 1), (8, 1), (9, 1), (10, 1)] (.agg #[.int .u64 0, .int .u64 0, .int .u32 0, .int .u8 0, .int .u8 0, .int .u8 0, .int .u8 0, .nilFunc, .pointer none, .int .i32 0, .int .i32 0]) := ⟨Tryz.t270, Tryz.type270, rfl, .inl ⟨_, Tryz.underlying270, rfl⟩⟩
instance n271 : TyN Tryz.prog 271 11 48 (.agg #[.int .u64 0, .int .u64 0, .int .u32 0, .int .u8 0, .int .u8 0, .int .u8 0, .int .u8 0, .nilFunc, .pointer none, .int .i32 0, .int .i32 0]) := ⟨Tryz.t271, Tryz.type271, rfl, rfl, rfl⟩
instance g271 : TyG Tryz.prog 271 true 11 := ⟨_, Tryz.t271, Tryz.underlying271, Tryz.type271, rfl, rfl⟩
instance f271_0 : TyF Tryz.prog 271 0 0 := ⟨_, _, Tryz.t12, Tryz.underlying271, rfl, rfl, Tryz.type12, by decide⟩
instance f271_1 : TyF Tryz.prog 271 1 1 := ⟨_, _, Tryz.t12, Tryz.underlying271, rfl, rfl, Tryz.type12, by decide⟩
instance f271_2 : TyF Tryz.prog 271 2 2 := ⟨_, _, Tryz.t206, Tryz.underlying271, rfl, rfl, Tryz.type206, by decide⟩
instance f271_3 : TyF Tryz.prog 271 3 3 := ⟨_, _, Tryz.t265, Tryz.underlying271, rfl, rfl, Tryz.type265, by decide⟩
instance f271_4 : TyF Tryz.prog 271 4 4 := ⟨_, _, Tryz.t5, Tryz.underlying271, rfl, rfl, Tryz.type5, by decide⟩
instance f271_5 : TyF Tryz.prog 271 5 5 := ⟨_, _, Tryz.t5, Tryz.underlying271, rfl, rfl, Tryz.type5, by decide⟩
instance f271_6 : TyF Tryz.prog 271 6 6 := ⟨_, _, Tryz.t266, Tryz.underlying271, rfl, rfl, Tryz.type266, by decide⟩
instance f271_7 : TyF Tryz.prog 271 7 7 := ⟨_, _, Tryz.t267, Tryz.underlying271, rfl, rfl, Tryz.type267, by decide⟩
instance f271_8 : TyF Tryz.prog 271 8 8 := ⟨_, _, Tryz.t249, Tryz.underlying271, rfl, rfl, Tryz.type249, by decide⟩
instance f271_9 : TyF Tryz.prog 271 9 9 := ⟨_, _, Tryz.t268, Tryz.underlying271, rfl, rfl, Tryz.type268, by decide⟩
instance f271_10 : TyF Tryz.prog 271 10 10 := ⟨_, _, Tryz.t269, Tryz.underlying271, rfl, rfl, Tryz.type269, by decide⟩
instance b271 : TyB Tryz.prog 271 [(0, 1), (1, 1), (2, 1), (3, 1), (4, 1), (5, 1), (6, 1), (7, 1), (8, 1), (9, 1), (10, 1)] (.agg #[.int .u64 0, .int .u64 0, .int .u32 0, .int .u8 0, .int .u8 0, .int .u8 0, .int .u8 0, .nilFunc, .pointer none, .int .i32 0, .int .i32 0]) := ⟨Tryz.t271, Tryz.type271, rfl, .inl ⟨_, Tryz.underlying271, rfl⟩⟩
end Go.Proofs.YtoonnnifelnaiaaGreatDoor.A

namespace Go.Proofs.YtoonnnifelnaiaaGreatDoor.Dk
open Go.RowKit L A
set_option linter.unusedVariables false
set_option maxRecDepth 20000
set_option linter.unusedSimpArgs false
attribute [local irreducible] AW AQ AO

theorem mod_fn (v n : Int) (h1 : 0 < n) (h2 : n ≤ 4611686018427387904) : Sp Tryz.prog 11 [.val (.int .i64 v), .val (.int .i64 n)] [] (Is (.val (.int .i64 (v % n)))) := by
 have hf := tmod_fix2 v n h1
 have hlt : v.tmod n < n := Int.tmod_lt_of_pos v h1
 have hge : -n < v.tmod n := by
  rcases Int.le_total 0 v with hv | hv
  ·have := Int.tmod_nonneg n hv; omega
  ·have := Int.lt_tmod_of_pos v h1; omega
 refine Sp.enter Tryz.func11 rfl _ Tryz.ntmps11 rfl (fun w0 R0 => ?_)
 refine AW.seq ?_
 refine AW.region ?_
 refine AO.op (O.assign rfl rfl) rfl rfl rfl ?_
 refine AO.nil ?_
 refine AQ.thenN ?_
 refine AW.seq ?_
 refine AW.region ?_
 refine AO.op (O.move rfl rfl) rfl rfl rfl ?_
 refine AO.op (O.move rfl rfl) rfl rfl rfl ?_
 refine AO.op (O.rem rfl rfl rfl (by omega) rfl) rfl rfl rfl ?_
 refine AO.op (O.assign rfl rfl) rfl rfl rfl ?_
 refine AO.nil ?_
 refine AQ.thenN ?_
 refine AW.seq ?_
 refine AW.seq ?_
 refine AW.region ?_
 refine AO.op (O.move rfl rfl) rfl rfl rfl ?_
 refine AO.op (O.lss rfl rfl rfl (by rfl)) rfl rfl rfl ?_
 refine AO.nil ?_
 refine AQ.thenN ?_
 refine AW.split rfl (fun h => ?_) (fun h => ?_)
 ·skip
  have h : v.tmod n < 0 := of_decide_eq_true h
  rw [if_pos h] at hf
  refine AW.region ?_
  refine AO.op (O.move rfl rfl) rfl rfl rfl ?_
  refine AO.op (O.move rfl rfl) rfl rfl rfl ?_
  refine AO.op (O.add rfl rfl rfl (by exact wI64 (by omega))) rfl rfl rfl ?_
  refine AO.op (O.assign rfl rfl) rfl rfl rfl ?_
  refine AO.nil ?_
  refine AQ.thenN ?_
  refine AW.seq ?_
  refine AW.region ?_
  refine AO.op (O.move rfl rfl) rfl rfl rfl ?_
  refine AO.op (O.assign rfl rfl) rfl rfl rfl ?_
  refine AO.nil ?_
  refine AQ.thenN ?_
  refine AW.ret ?_
  refine AQ.ret1 rfl rfl ⟨_, List.nil_sublist _, .nil⟩ (⟨by rw [hf], rfl⟩)
 ·skip
  have h : ¬ v.tmod n < 0 := of_decide_eq_false h
  rw [if_neg h] at hf
  refine AW.skip ?_
  refine AQ.thenN ?_
  refine AW.seq ?_
  refine AW.region ?_
  refine AO.op (O.move rfl rfl) rfl rfl rfl ?_
  refine AO.op (O.assign rfl rfl) rfl rfl rfl ?_
  refine AO.nil ?_
  refine AQ.thenN ?_
  refine AW.ret ?_
  refine AQ.ret1 rfl rfl ⟨_, List.nil_sublist _, .nil⟩ (⟨by rw [hf], rfl⟩)

/-- A deck: its numbers, and how many are taken. -/
abbrev deck (b : Nat) (l : List Int) (k : Nat) : HE := .blk b 105 2 [roI l, .val (.int .i64 (k : Int))]
abbrev ptr (b : Nat) : AV := .val (.pointer (some ⟨b, 0, none⟩))
def nxt (l : List Int) (k : Nat) (n : Int) : Int := if k < l.length then l.getD k 0 % n else 0
def adv (l : List Int) (k : Nat) : Nat := if k < l.length then k + 1 else k
theorem nxt_in (l : List Int) (k : Nat) {n : Int} (h : 0 < n) : 0 ≤ nxt l k n ∧ nxt l k n < n := by
 unfold nxt
 split
 ·exact ⟨Int.emod_nonneg _ (by omega), Int.emod_lt_of_pos _ h⟩
 ·omega
theorem adv_le {l : List Int} {k m : Nat} (h : k ≤ m) (hm : l.length ≤ m) : adv l k ≤ m := by unfold adv; split <;> omega
theorem adv_le' {l : List Int} {k : Nat} (h : k ≤ l.length) : adv l k ≤ l.length := adv_le h (Nat.le_refl _)

theorem new_fn (l : List Int) : Sp Tryz.prog 9 [roI l] [] (NewBlk (fun b => .val (.pointer (some ⟨b, 0, none⟩))) 105 2 [roI l, .val (.int .i64 0)]) := by
 refine Sp.enter Tryz.func9 rfl _ Tryz.ntmps9 rfl (fun w0 R0 => ?_)
 refine AW.seq ?_
 refine AW.region ?_
 refine AO.op (O.assign rfl rfl) rfl rfl rfl ?_
 refine AO.nil ?_
 refine AQ.thenN ?_
 refine AW.seq ?_
 refine AW.region ?_
 refine AO.op (O.move rfl rfl) rfl rfl rfl ?_
 refine AO.op (O.build rfl rfl rfl (by rfl)) rfl rfl rfl ?_
 refine AO.opB (O.box rfl rfl rfl rfl rfl) rfl rfl rfl ?_
 intro B
 refine AO.op (O.assign rfl rfl) rfl rfl rfl ?_
 refine AO.nil ?_
 refine AQ.thenN ?_
 refine AW.ret ?_
 refine AQ.ret1 rfl rfl ⟨_, by repeat (first | exact List.Sublist.slnil | refine List.Sublist.cons_cons _ ?_), List.Perm.refl _⟩ (⟨B, rfl, rfl⟩)

theorem roI_at {l : List Int} {k : Nat} (h : k < l.length) {j : Nat} (hj : j = k) : (intsA .i64 l)[j]? = some (.val (.int .i64 (l.getD k 0))) := by
 subst hj; simp [intsA, h]
set_option maxHeartbeats 1000000 in
set_option maxRecDepth 20000 in
theorem next_fn (b : Nat) (l : List Int) (k : Nat) (n : Int) (hl : l.length ≤ maxLen) (hk : k ≤ l.length) (hn1 : 0 < n) (hn2 : n ≤ 4611686018427387904) :
  Sp Tryz.prog 13 [ptr b, .val (.int .i64 n)] [deck b l k] (IsM (.val (.int .i64 (nxt l k n))) (deck b l (adv l k))) := by
 unfold maxLen at hl
 refine Sp.enter Tryz.func13 rfl _ Tryz.ntmps13 rfl (fun w0 R0 => ?_)
 refine AW.seq ?_
 refine AW.region ?_
 refine AO.op (O.assign rfl rfl) rfl rfl rfl ?_
 refine AO.nil ?_
 refine AQ.thenN ?_
 refine AW.seq ?_
 refine AW.seq ?_
 refine AW.regionD 10 (by kernel_rfl) (by kernel_rfl) ?_
 simp only [List.take_succ_cons, List.take_zero, List.drop_succ_cons, List.drop_zero]
 refine FA.op (O.move rfl rfl) rfl rfl rfl rfl ?_
 refine FA.op (O.nilCheck rfl rfl) rfl rfl rfl rfl ?_
 refine FA.op (O.fieldAddr rfl rfl) rfl rfl rfl rfl ?_
 refine FA.op (O.load rfl rfl (by repeat (exact List.Mem.head _)) (by rfl)) rfl rfl rfl rfl ?_
 refine FA.op (O.move rfl rfl) rfl rfl rfl rfl ?_
 refine FA.op (O.nilCheck rfl rfl) rfl rfl rfl rfl ?_
 refine FA.op (O.fieldAddr rfl rfl) rfl rfl rfl rfl ?_
 refine FA.op (O.load rfl rfl (by repeat (exact List.Mem.head _)) (by rfl)) rfl rfl rfl rfl ?_
 refine FA.op (O.lenR rfl rfl) rfl rfl rfl rfl ?_
 refine FA.op (O.geq rfl rfl rfl (by rfl)) rfl rfl rfl rfl ?_
 refine FA.nil ?_
 simp only [chosen, List.nil_append, List.cons_append, List.append_nil]
 refine AO.nil ?_
 refine AQ.thenN ?_
 refine AW.split rfl (fun h => ?_) (fun h => ?_)
 ·skip
  have h : ¬ k < l.length := by have := of_decide_eq_true h; omega
  refine AW.seq ?_
  refine AW.region ?_
  refine AO.op (O.assign rfl rfl) rfl rfl rfl ?_
  refine AO.nil ?_
  refine AQ.thenN ?_
  refine AW.ret ?_
  refine AQ.thenR ?_
  have e1 : nxt l k n = 0 := by simp only [nxt, if_neg h]
  have e2 : adv l k = k := by simp only [adv, if_neg h]
  refine AQ.ret1 rfl rfl ⟨_, by repeat (first | exact List.Sublist.slnil | refine List.Sublist.cons_cons _ ?_), List.Perm.refl _⟩ (⟨congrArg (fun z => AV.val (.int .i64 z)) e1.symm, congrArg (fun z => [deck b l z]) e2.symm⟩)
 ·skip
  have h : k < l.length := by have := of_decide_eq_false h; omega
  refine AW.skip ?_
  refine AQ.thenN ?_
  refine AW.seq ?_
  refine AW.region ?_
  refine AO.op (O.move rfl rfl) rfl rfl rfl ?_
  refine AO.op (O.nilCheck rfl rfl) rfl rfl rfl ?_
  refine AO.op (O.fieldAddr rfl rfl) rfl rfl rfl ?_
  refine AO.op (O.load rfl rfl (by repeat (exact List.Mem.head _)) (by rfl)) rfl rfl rfl ?_
  refine AO.op (O.add rfl rfl rfl (by exact wI64 (by omega))) rfl rfl rfl ?_
  refine AO.op (O.nilCheck rfl rfl) rfl rfl rfl ?_
  refine AO.op (O.fieldAddr rfl rfl) rfl rfl rfl ?_
  (refine AO.store (i := 0) rfl rfl rfl rfl rfl rfl (by rfl) (by rfl) (by rfl) (by (dsimp only [List.set, List.append, List.cons_append, List.nil_append, splice, ofConst, AV.cells, List.map, List.map_cons, List.map_nil, List.take, List.drop, Nat.zero_add, Nat.add_zero, Nat.reduceAdd, Nat.reduceMul, Nat.zero_mul, Value.cells, List.toList_toArray, zerosA, List.replicate, List.flatten, List.append_nil]; done)) (by (dsimp only [List.set, List.append, List.cons_append, List.nil_append, splice, ofConst, AV.cells, List.map, List.map_cons, List.map_nil, List.take, List.drop, Nat.zero_add, Nat.add_zero, Nat.reduceAdd, Nat.reduceMul, Nat.zero_mul, Value.cells, List.toList_toArray, zerosA, List.replicate, List.flatten, List.append_nil]; done)) ?_)
  refine AO.nil ?_
  refine AQ.thenN ?_
  refine AW.seq ?_
  refine AW.regionD 14 (by kernel_rfl) (by kernel_rfl) ?_
  simp only [List.take_succ_cons, List.take_zero, List.drop_succ_cons, List.drop_zero]
  refine FA.op (O.move rfl rfl) rfl rfl rfl rfl ?_
  refine FA.op (O.nilCheck rfl rfl) rfl rfl rfl rfl ?_
  refine FA.op (O.fieldAddr rfl rfl) rfl rfl rfl rfl ?_
  refine FA.op (O.load rfl rfl (by repeat (exact List.Mem.head _)) (by rfl)) rfl rfl rfl rfl ?_
  refine FA.op (O.move rfl rfl) rfl rfl rfl rfl ?_
  refine FA.op (O.nilCheck rfl rfl) rfl rfl rfl rfl ?_
  refine FA.op (O.fieldAddr rfl rfl) rfl rfl rfl rfl ?_
  refine FA.op (O.load rfl rfl (by repeat (exact List.Mem.head _)) (by rfl)) rfl rfl rfl rfl ?_
  refine FA.op (O.sub rfl rfl rfl (by exact wI64 (by omega))) rfl rfl rfl rfl ?_
  refine FA.op (O.idxR rfl rfl rfl ⟨(by omega), (by omega)⟩) rfl rfl rfl rfl ?_
  refine FA.op (O.loadR rfl rfl (by exact roI_at (by assumption) (by omega))) rfl rfl rfl rfl ?_
  refine FA.op (O.move rfl rfl) rfl rfl rfl rfl ?_
  refine FA.op (O.call rfl Tryz.func11 rfl rfl rfl (mod_fn _ _ hn1 hn2)) rfl rfl rfl rfl ?_
  refine FA.op (O.assign rfl rfl) rfl rfl rfl rfl ?_
  refine FA.nil ?_
  simp only [chosen, List.nil_append, List.cons_append, List.append_nil]
  refine AO.nil ?_
  refine AQ.thenN ?_
  refine AW.ret ?_
  have e1 : nxt l k n = l.getD k 0 % n := by simp only [nxt, if_pos h]
  have e2 : adv l k = k + 1 := by simp only [adv, if_pos h]
  refine AQ.ret1 rfl rfl ⟨_, by repeat (first | exact List.Sublist.slnil | refine List.Sublist.cons_cons _ ?_), List.Perm.refl _⟩ (⟨congrArg (fun z => AV.val (.int .i64 z)) e1.symm, congrArg (fun z => [deck b l z]) e2.symm⟩)
end Go.Proofs.YtoonnnifelnaiaaGreatDoor.Dk

namespace Go.Proofs.YtoonnnifelnaiaaGreatDoor.By
open Go.RowKit L A Dk
set_option linter.unusedVariables false
set_option maxRecDepth 20000
set_option linter.unusedSimpArgs false
attribute [local irreducible] AW AQ AO
structure PreY (s w r : ByteArray) : Prop where
 a : w.size ≤ s.size
 b : s.extract 0 w.size = w
 c : s.extract w.size s.size = r
structure PreN (s w : ByteArray) : Prop where
 a : s.size < w.size ∨ (w.size ≤ s.size ∧ ((s.extract 0 w.size).toList == w.toList) = false)
instance (s w r : ByteArray) : Decidable (PreY s w r) := decidable_of_iff (w.size ≤ s.size ∧ s.extract 0 w.size = w ∧ s.extract w.size s.size = r) ⟨fun h => ⟨h.1, h.2.1, h.2.2⟩, fun h => ⟨h.a, h.b, h.c⟩⟩
instance (s w : ByteArray) : Decidable (PreN s w) := decidable_of_iff _ ⟨fun h => ⟨h⟩, fun h => h.a⟩
theorem hasPre_yes {s w r : ByteArray} (h : PreY s w r) : Sp Tryz.prog 168 [.val (.string s), .val (.string w)] [] (Is (.val (.bool true))) := by
 obtain ⟨h1, h2, h3⟩ := h
 have hq : ((s.extract 0 w.size).toList == w.toList) = true := by rw [h2]; exact beq_self_eq_true _
 refine Sp.enter Tryz.func168 rfl _ Tryz.ntmps168 rfl (fun w0 R0 => ?_)
 refine AW.seq ?_
 refine AW.region ?_
 refine AO.op (O.assign rfl rfl) rfl rfl rfl ?_
 refine AO.nil ?_
 refine AQ.thenN ?_
 refine AW.seq ?_
 refine AW.region ?_
 refine AO.op (O.move rfl rfl) rfl rfl rfl ?_
 refine AO.op (O.lenS rfl rfl) rfl rfl rfl ?_
 refine AO.op (O.move rfl rfl) rfl rfl rfl ?_
 refine AO.op (O.lenS rfl rfl) rfl rfl rfl ?_
 refine AO.op (O.geq rfl rfl rfl (by exact bTrue (by omega))) rfl rfl rfl ?_
 refine AO.op (O.move rfl rfl) rfl rfl rfl ?_
 refine AO.opG rfl rfl rfl (fun hp => O.move rfl rfl) ?_
 refine AO.opG rfl rfl rfl (fun hp => O.move rfl rfl) ?_
 refine AO.opG rfl rfl rfl (fun hp => OpW.force 12 rfl (by exact hp) (O.lenS rfl rfl)) ?_
 refine AO.opG rfl rfl rfl (fun hp => OpW.force 11 rfl (by exact hp) (OpW.force 13 rfl (by exact hp) (O.sliceS rfl rfl (by exact rfl) (by exact ⟨_, _, rfl, by rfl⟩) (by omega) (by omega) rfl))) ?_
 refine AO.opG rfl rfl rfl (fun hp => O.move rfl rfl) ?_
 refine AO.opG rfl rfl rfl (fun hp => OpW.force 14 rfl (by exact hp) (OpW.force 15 rfl (by exact hp) (O.eqlS rfl rfl rfl (by assumption)))) ?_
 refine AO.op (O.pickAnd rfl rfl rfl rfl (fun h => by exact h)) rfl rfl rfl ?_
 refine AO.op (O.assign rfl rfl) rfl rfl rfl ?_
 refine AO.nil ?_
 refine AQ.thenN ?_
 refine AW.ret ?_
 refine AQ.ret1 rfl rfl ⟨_, List.nil_sublist _, .nil⟩ (⟨rfl, rfl⟩)
theorem hasPre_no {s w : ByteArray} (h : PreN s w) : Sp Tryz.prog 168 [.val (.string s), .val (.string w)] [] (Is (.val (.bool false))) := by
 obtain ⟨h | ⟨h1, h2⟩⟩ := h
 ·refine Sp.enter Tryz.func168 rfl _ Tryz.ntmps168 rfl (fun w0 R0 => ?_)
  refine AW.seq ?_
  refine AW.region ?_
  refine AO.op (O.assign rfl rfl) rfl rfl rfl ?_
  refine AO.nil ?_
  refine AQ.thenN ?_
  refine AW.seq ?_
  refine AW.region ?_
  refine AO.op (O.move rfl rfl) rfl rfl rfl ?_
  refine AO.op (O.lenS rfl rfl) rfl rfl rfl ?_
  refine AO.op (O.move rfl rfl) rfl rfl rfl ?_
  refine AO.op (O.lenS rfl rfl) rfl rfl rfl ?_
  refine AO.op (O.geq rfl rfl rfl (by exact bFalse (by omega))) rfl rfl rfl ?_
  refine AO.op (O.move rfl rfl) rfl rfl rfl ?_
  refine AO.opG rfl rfl rfl (fun hp => O.move rfl rfl) ?_
  refine AO.opG rfl rfl rfl (fun hp => O.move rfl rfl) ?_
  refine AO.opG rfl rfl rfl (fun hp => OpW.force 12 rfl (by exact hp) (O.lenS rfl rfl)) ?_
  refine AO.no rfl rfl rfl ?_
  refine AO.opG rfl rfl rfl (fun hp => O.move rfl rfl) ?_
  refine AO.no rfl rfl rfl ?_
  refine AO.op (O.pickF rfl rfl rfl) rfl rfl rfl ?_
  refine AO.op (O.assign rfl rfl) rfl rfl rfl ?_
  refine AO.nil ?_
  refine AQ.thenN ?_
  refine AW.ret ?_
  refine AQ.ret1 rfl rfl ⟨_, List.nil_sublist _, .nil⟩ (⟨rfl, rfl⟩)
 ·refine Sp.enter Tryz.func168 rfl _ Tryz.ntmps168 rfl (fun w0 R0 => ?_)
  refine AW.seq ?_
  refine AW.region ?_
  refine AO.op (O.assign rfl rfl) rfl rfl rfl ?_
  refine AO.nil ?_
  refine AQ.thenN ?_
  refine AW.seq ?_
  refine AW.region ?_
  refine AO.op (O.move rfl rfl) rfl rfl rfl ?_
  refine AO.op (O.lenS rfl rfl) rfl rfl rfl ?_
  refine AO.op (O.move rfl rfl) rfl rfl rfl ?_
  refine AO.op (O.lenS rfl rfl) rfl rfl rfl ?_
  refine AO.op (O.geq rfl rfl rfl (by exact bTrue (by omega))) rfl rfl rfl ?_
  refine AO.op (O.move rfl rfl) rfl rfl rfl ?_
  refine AO.opG rfl rfl rfl (fun hp => O.move rfl rfl) ?_
  refine AO.opG rfl rfl rfl (fun hp => O.move rfl rfl) ?_
  refine AO.opG rfl rfl rfl (fun hp => OpW.force 12 rfl (by exact hp) (O.lenS rfl rfl)) ?_
  refine AO.opG rfl rfl rfl (fun hp => OpW.force 11 rfl (by exact hp) (OpW.force 13 rfl (by exact hp) (O.sliceS rfl rfl (by exact rfl) (by exact ⟨_, _, rfl, by rfl⟩) (by omega) (by omega) rfl))) ?_
  refine AO.opG rfl rfl rfl (fun hp => O.move rfl rfl) ?_
  refine AO.opG rfl rfl rfl (fun hp => OpW.force 14 rfl (by exact hp) (OpW.force 15 rfl (by exact hp) (O.eqlS rfl rfl rfl (by assumption)))) ?_
  refine AO.op (O.pickAnd rfl rfl rfl rfl (fun h => by exact h)) rfl rfl rfl ?_
  refine AO.op (O.assign rfl rfl) rfl rfl rfl ?_
  refine AO.nil ?_
  refine AQ.thenN ?_
  refine AW.ret ?_
  refine AQ.ret1 rfl rfl ⟨_, List.nil_sublist _, .nil⟩ (⟨rfl, rfl⟩)
theorem cutPre_yes {s w r : ByteArray} (h : PreY s w r) : Sp Tryz.prog 120 [.val (.string s), .val (.string w)] [] (Is (.tup [.val (.string r), .val (.bool true)])) := by
 have h1 := h.a
 have h2 := h.c
 have hi : Sp Tryz.prog 141 [.val (.string s), .val (.string w)] [] (Is (.tup [.val (.string r), .val (.bool true)])) := by
  refine Sp.enter Tryz.func141 rfl _ Tryz.ntmps141 rfl (fun w0 R0 => ?_)
  refine AW.seq ?_
  refine AW.region ?_
  refine AO.op (O.assign rfl rfl) rfl rfl rfl ?_
  refine AO.op (O.assign rfl rfl) rfl rfl rfl ?_
  refine AO.nil ?_
  refine AQ.thenN ?_
  refine AW.seq ?_
  refine AW.seq ?_
  refine AW.region ?_
  refine AO.op (O.move rfl rfl) rfl rfl rfl ?_
  refine AO.op (O.move rfl rfl) rfl rfl rfl ?_
  refine AO.op (O.call rfl Tryz.func168 rfl rfl rfl (hasPre_yes ‹_›)) rfl rfl rfl ?_
  refine AO.op (O.not rfl rfl (by rfl)) rfl rfl rfl ?_
  refine AO.nil ?_
  refine AQ.thenN ?_
  refine AW.condF rfl ?_
  refine AW.skip ?_
  refine AQ.thenN ?_
  refine AW.seq ?_
  refine AW.region ?_
  refine AO.op (O.move rfl rfl) rfl rfl rfl ?_
  refine AO.op (O.move rfl rfl) rfl rfl rfl ?_
  refine AO.op (O.lenS rfl rfl) rfl rfl rfl ?_
  refine AO.op (O.sliceS rfl rfl (by exact ⟨_, _, rfl, by rfl⟩) (by exact rfl) (by omega) (by omega) (by assumption)) rfl rfl rfl ?_
  refine AO.op (O.assign rfl rfl) rfl rfl rfl ?_
  refine AO.op (O.assign rfl rfl) rfl rfl rfl ?_
  refine AO.nil ?_
  refine AQ.thenN ?_
  refine AW.ret ?_
  refine AQ.ret2 rfl rfl rfl ⟨_, List.nil_sublist _, .nil⟩ (⟨rfl, rfl⟩)
 refine Sp.enter Tryz.func120 rfl _ Tryz.ntmps120 rfl (fun w0 R0 => ?_)
 refine AW.seq ?_
 refine AW.region ?_
 refine AO.op (O.assign rfl rfl) rfl rfl rfl ?_
 refine AO.op (O.assign rfl rfl) rfl rfl rfl ?_
 refine AO.nil ?_
 refine AQ.thenN ?_
 refine AW.seq ?_
 refine AW.region ?_
 refine AO.op (O.move rfl rfl) rfl rfl rfl ?_
 refine AO.op (O.move rfl rfl) rfl rfl rfl ?_
 refine AO.op (O.call rfl Tryz.func141 rfl rfl rfl (hi)) rfl rfl rfl ?_
 refine AO.op (O.extract rfl rfl rfl) rfl rfl rfl ?_
 refine AO.op (O.extract rfl rfl rfl) rfl rfl rfl ?_
 refine AO.op (O.assign rfl rfl) rfl rfl rfl ?_
 refine AO.op (O.assign rfl rfl) rfl rfl rfl ?_
 refine AO.nil ?_
 refine AQ.thenN ?_
 refine AW.ret ?_
 refine AQ.ret2 rfl rfl rfl ⟨_, List.nil_sublist _, .nil⟩ (⟨rfl, rfl⟩)
theorem cutPre_no {s w : ByteArray} (h : PreN s w) : Sp Tryz.prog 120 [.val (.string s), .val (.string w)] [] (Is (.tup [.val (.string s), .val (.bool false)])) := by
 have hi : Sp Tryz.prog 141 [.val (.string s), .val (.string w)] [] (Is (.tup [.val (.string s), .val (.bool false)])) := by
  refine Sp.enter Tryz.func141 rfl _ Tryz.ntmps141 rfl (fun w0 R0 => ?_)
  refine AW.seq ?_
  refine AW.region ?_
  refine AO.op (O.assign rfl rfl) rfl rfl rfl ?_
  refine AO.op (O.assign rfl rfl) rfl rfl rfl ?_
  refine AO.nil ?_
  refine AQ.thenN ?_
  refine AW.seq ?_
  refine AW.seq ?_
  refine AW.region ?_
  refine AO.op (O.move rfl rfl) rfl rfl rfl ?_
  refine AO.op (O.move rfl rfl) rfl rfl rfl ?_
  refine AO.op (O.call rfl Tryz.func168 rfl rfl rfl (hasPre_no ‹_›)) rfl rfl rfl ?_
  refine AO.op (O.not rfl rfl (by rfl)) rfl rfl rfl ?_
  refine AO.nil ?_
  refine AQ.thenN ?_
  refine AW.condT rfl ?_
  refine AW.seq ?_
  refine AW.region ?_
  refine AO.op (O.move rfl rfl) rfl rfl rfl ?_
  refine AO.op (O.assign rfl rfl) rfl rfl rfl ?_
  refine AO.op (O.assign rfl rfl) rfl rfl rfl ?_
  refine AO.nil ?_
  refine AQ.thenN ?_
  refine AW.ret ?_
  refine AQ.thenR ?_
  refine AQ.ret2 rfl rfl rfl ⟨_, List.nil_sublist _, .nil⟩ (⟨rfl, rfl⟩)
 refine Sp.enter Tryz.func120 rfl _ Tryz.ntmps120 rfl (fun w0 R0 => ?_)
 refine AW.seq ?_
 refine AW.region ?_
 refine AO.op (O.assign rfl rfl) rfl rfl rfl ?_
 refine AO.op (O.assign rfl rfl) rfl rfl rfl ?_
 refine AO.nil ?_
 refine AQ.thenN ?_
 refine AW.seq ?_
 refine AW.region ?_
 refine AO.op (O.move rfl rfl) rfl rfl rfl ?_
 refine AO.op (O.move rfl rfl) rfl rfl rfl ?_
 refine AO.op (O.call rfl Tryz.func141 rfl rfl rfl (hi)) rfl rfl rfl ?_
 refine AO.op (O.extract rfl rfl rfl) rfl rfl rfl ?_
 refine AO.op (O.extract rfl rfl rfl) rfl rfl rfl ?_
 refine AO.op (O.assign rfl rfl) rfl rfl rfl ?_
 refine AO.op (O.assign rfl rfl) rfl rfl rfl ?_
 refine AO.nil ?_
 refine AQ.thenN ?_
 refine AW.ret ?_
 refine AQ.ret2 rfl rfl rfl ⟨_, List.nil_sublist _, .nil⟩ (⟨rfl, rfl⟩)
abbrev parsB (B : Nat) (s : ByteArray) (n : Int) (bad : Bool) : HE := .blk B 151 3 [.val (.string s), .val (.int .i64 n), .val (.bool bad)]
theorem skip_yes {B : Nat} {s w : ByteArray} (r : ByteArray) {n : Int} {bad : Bool} (h : PreY s w r) : Sp Tryz.prog 99 [ptr B, .val (.string w)] [parsB B s n bad] (IsM (.val (.bool true)) (parsB B r n bad)) := by
 refine Sp.enter Tryz.func99 rfl _ Tryz.ntmps99 rfl (fun w0 R0 => ?_)
 refine AW.seq ?_
 refine AW.region ?_
 refine AO.op (O.assign rfl rfl) rfl rfl rfl ?_
 refine AO.nil ?_
 refine AQ.thenN ?_
 refine AW.seq ?_
 refine AW.region ?_
 refine AO.op (O.move rfl rfl) rfl rfl rfl ?_
 refine AO.op (O.nilCheck rfl rfl) rfl rfl rfl ?_
 refine AO.op (O.fieldAddr rfl rfl) rfl rfl rfl ?_
 refine AO.op (O.load rfl rfl (by repeat (exact List.Mem.head _)) (by rfl)) rfl rfl rfl ?_
 refine AO.op (O.move rfl rfl) rfl rfl rfl ?_
 refine AO.op (O.call rfl Tryz.func120 rfl rfl rfl (cutPre_yes ‹_›)) rfl rfl rfl ?_
 refine AO.op (O.move rfl rfl) rfl rfl rfl ?_
 refine AO.op (O.extract rfl rfl rfl) rfl rfl rfl ?_
 refine AO.op (O.extract rfl rfl rfl) rfl rfl rfl ?_
 refine AO.op (O.assign rfl rfl) rfl rfl rfl ?_
 refine AO.op (O.assign rfl rfl) rfl rfl rfl ?_
 refine AO.nil ?_
 refine AQ.thenN ?_
 refine AW.seq ?_
 refine AW.seq ?_
 refine AW.region ?_
 refine AO.op (O.move rfl rfl) rfl rfl rfl ?_
 refine AO.nil ?_
 refine AQ.thenN ?_
 refine AW.condT rfl ?_
 refine AW.region ?_
 refine AO.op (O.move rfl rfl) rfl rfl rfl ?_
 refine AO.op (O.move rfl rfl) rfl rfl rfl ?_
 refine AO.op (O.nilCheck rfl rfl) rfl rfl rfl ?_
 refine AO.op (O.fieldAddr rfl rfl) rfl rfl rfl ?_
 refine AO.store (i := 0) rfl rfl rfl rfl rfl rfl (by rfl) (by rfl) (by rfl) (by rfl) (by rfl) ?_
 refine AO.nil ?_
 refine AQ.thenN ?_
 refine AW.seq ?_
 refine AW.region ?_
 refine AO.op (O.move rfl rfl) rfl rfl rfl ?_
 refine AO.op (O.assign rfl rfl) rfl rfl rfl ?_
 refine AO.nil ?_
 refine AQ.thenN ?_
 refine AW.ret ?_
 refine AQ.ret1 rfl rfl ⟨_, by repeat (first | exact List.Sublist.slnil | refine List.Sublist.cons_cons _ ?_), List.Perm.refl _⟩ (⟨rfl, rfl⟩)
theorem skip_no {B : Nat} {s w : ByteArray} {n : Int} {bad : Bool} (h : PreN s w) : Sp Tryz.prog 99 [ptr B, .val (.string w)] [parsB B s n bad] (IsM (.val (.bool false)) (parsB B s n bad)) := by
 refine Sp.enter Tryz.func99 rfl _ Tryz.ntmps99 rfl (fun w0 R0 => ?_)
 refine AW.seq ?_
 refine AW.region ?_
 refine AO.op (O.assign rfl rfl) rfl rfl rfl ?_
 refine AO.nil ?_
 refine AQ.thenN ?_
 refine AW.seq ?_
 refine AW.region ?_
 refine AO.op (O.move rfl rfl) rfl rfl rfl ?_
 refine AO.op (O.nilCheck rfl rfl) rfl rfl rfl ?_
 refine AO.op (O.fieldAddr rfl rfl) rfl rfl rfl ?_
 refine AO.op (O.load rfl rfl (by repeat (exact List.Mem.head _)) (by rfl)) rfl rfl rfl ?_
 refine AO.op (O.move rfl rfl) rfl rfl rfl ?_
 refine AO.op (O.call rfl Tryz.func120 rfl rfl rfl (cutPre_no ‹_›)) rfl rfl rfl ?_
 refine AO.op (O.move rfl rfl) rfl rfl rfl ?_
 refine AO.op (O.extract rfl rfl rfl) rfl rfl rfl ?_
 refine AO.op (O.extract rfl rfl rfl) rfl rfl rfl ?_
 refine AO.op (O.assign rfl rfl) rfl rfl rfl ?_
 refine AO.op (O.assign rfl rfl) rfl rfl rfl ?_
 refine AO.nil ?_
 refine AQ.thenN ?_
 refine AW.seq ?_
 refine AW.seq ?_
 refine AW.region ?_
 refine AO.op (O.move rfl rfl) rfl rfl rfl ?_
 refine AO.nil ?_
 refine AQ.thenN ?_
 refine AW.condF rfl ?_
 refine AW.skip ?_
 refine AQ.thenN ?_
 refine AW.seq ?_
 refine AW.region ?_
 refine AO.op (O.move rfl rfl) rfl rfl rfl ?_
 refine AO.op (O.assign rfl rfl) rfl rfl rfl ?_
 refine AO.nil ?_
 refine AQ.thenN ?_
 refine AW.ret ?_
 refine AQ.ret1 rfl rfl ⟨_, by repeat (first | exact List.Sublist.slnil | refine List.Sublist.cons_cons _ ?_), List.Perm.refl _⟩ (⟨rfl, rfl⟩)
/-! ### Numbers of one digit -/
def dig (z : Int) : ByteArray := ⟨#[u8 (48 + z)]⟩
theorem small_fn (z : Int) (hz : 0 ≤ z ∧ z < 10) : Sp Tryz.prog 137 [.val (.int .i64 z)] [] (Is (.val (.string (dig z)))) := by
 have hc : z = 0 ∨ z = 1 ∨ z = 2 ∨ z = 3 ∨ z = 4 ∨ z = 5 ∨ z = 6 ∨ z = 7 ∨ z = 8 ∨ z = 9 := by omega
 have hb : ∀ w : ByteArray, w = ⟨#[48, 49, 50, 51, 52, 53, 54, 55, 56, 57, 97, 98, 99, 100, 101, 102, 103, 104, 105, 106, 107, 108, 109, 110, 111, 112, 113, 114, 115, 116, 117, 118, 119, 120, 121, 122]⟩ → (z + 1).toNat ≤ w.size := by
  rintro w rfl
  show _ ≤ 36
  omega
 have he : ∀ w : ByteArray, w = ⟨#[48, 49, 50, 51, 52, 53, 54, 55, 56, 57, 97, 98, 99, 100, 101, 102, 103, 104, 105, 106, 107, 108, 109, 110, 111, 112, 113, 114, 115, 116, 117, 118, 119, 120, 121, 122]⟩ → w.extract z.toNat (z + 1).toNat = dig z := by
  rintro w rfl
  rcases hc with rfl | rfl | rfl | rfl | rfl | rfl | rfl | rfl | rfl | rfl <;> decide +kernel
 refine Sp.enter Tryz.func137 rfl _ Tryz.ntmps137 rfl (fun w0 R0 => ?_)
 refine AW.seq ?_
 refine AW.region ?_
 refine AO.op (O.assign rfl rfl) rfl rfl rfl ?_
 refine AO.nil ?_
 refine AQ.thenN ?_
 refine AW.seq ?_
 refine AW.seq ?_
 refine AW.region ?_
 refine AO.op (O.move rfl rfl) rfl rfl rfl ?_
 refine AO.op (O.lss rfl rfl rfl (by exact bTrue (by omega))) rfl rfl rfl ?_
 refine AO.nil ?_
 refine AQ.thenN ?_
 refine AW.condT rfl ?_
 refine AW.seq ?_
 refine AW.region ?_
 refine AO.op (O.move rfl rfl) rfl rfl rfl ?_
 refine AO.op (O.move rfl rfl) rfl rfl rfl ?_
 refine AO.op (O.add rfl rfl rfl (by exact wI64 (by omega))) rfl rfl rfl ?_
 refine AO.op (O.sliceS rfl rfl (by exact ⟨_, _, rfl, by omega⟩) (by exact ⟨_, _, rfl, by omega⟩) (by omega) (hb _ rfl) (he _ rfl)) rfl rfl rfl ?_
 refine AO.op (O.assign rfl rfl) rfl rfl rfl ?_
 refine AO.nil ?_
 refine AQ.thenN ?_
 refine AW.ret ?_
 refine AQ.thenR ?_
 refine AQ.ret1 rfl rfl ⟨_, List.nil_sublist _, .nil⟩ (⟨rfl, rfl⟩)
end Go.Proofs.YtoonnnifelnaiaaGreatDoor.By

namespace Go.Proofs.YtoonnnifelnaiaaGreatDoor.By
open Go.RowKit L A
set_option linter.unusedVariables false
set_option maxRecDepth 20000
set_option linter.unusedSimpArgs false
attribute [local irreducible] AW AQ AO

section
variable {α : Type} {f : α → List AV} {k : Nat}
theorem flat_len (hf : ∀ a, (f a).length = k) : ∀ l : List α, (l.flatMap f).length = l.length * k
 | [] => by simp
 | a :: l => by rw [List.flatMap_cons, List.length_append, hf, flat_len hf l, List.length_cons, Nat.add_mul]; omega
theorem flat_take (hf : ∀ a, (f a).length = k) : ∀ (l : List α) (n : Nat), (l.flatMap f).take (n * k) = (l.take n).flatMap f
 | [], n => by simp
 | a :: l, 0 => by simp
 | a :: l, n + 1 => by
  rw [List.flatMap_cons, List.take_succ_cons, List.flatMap_cons, ← flat_take hf l n, show (n + 1) * k = (f a).length + n * k by rw [hf, Nat.add_mul]; omega, List.take_length_add_append]
theorem flat_drop (hf : ∀ a, (f a).length = k) : ∀ (l : List α) (n : Nat), (l.flatMap f).drop (n * k) = (l.drop n).flatMap f
 | [], n => by simp
 | a :: l, 0 => by simp
 | a :: l, n + 1 => by
  rw [List.flatMap_cons, List.drop_succ_cons, ← flat_drop hf l n, show (n + 1) * k = (f a).length + n * k by rw [hf, Nat.add_mul]; omega, List.drop_length_add_append]
theorem flat_at (hf : ∀ a, (f a).length = k) (d : α) {l : List α} {i : Nat} (h : i < l.length) {j : Nat} (hj : j = i) : ((l.flatMap f).drop (j * k)).take k = f (l.getD i d) := by
 subst hj
 rw [flat_drop hf, List.drop_eq_getElem_cons h, List.flatMap_cons, List.take_left' (hf _)]
 simp [h]
theorem flat_app (l m : List α) : (l ++ m).flatMap f = l.flatMap f ++ m.flatMap f := List.flatMap_append
theorem flat_snoc (l : List α) (a : α) : (l ++ [a]).flatMap f = l.flatMap f ++ f a := by simp [List.flatMap_append]
theorem flat_set (hf : ∀ a, (f a).length = k) (a : α) : ∀ {l : List α} {i : Nat}, i < l.length → ((l.set i a).flatMap f) = (l.flatMap f).take (i * k) ++ f a ++ (l.flatMap f).drop (i * k + k)
 | [], i, h => by simp at h
 | x :: l, 0, h => by simp [List.flatMap_cons, ← hf x]
 | x :: l, i + 1, h => by
  rw [List.set_cons_succ, List.flatMap_cons, List.flatMap_cons, flat_set hf a (by simpa using h), show (i + 1) * k = (f x).length + i * k by rw [hf, Nat.add_mul]; omega, List.take_length_add_append,
   show (f x).length + i * k + k = (f x).length + (i * k + k) by omega, List.drop_length_add_append, List.append_assoc, List.append_assoc, List.append_assoc]
theorem take_snoc (d : α) {l : List α} {i : Nat} (h : i < l.length) : l.take (i + 1) = l.take i ++ [l.getD i d] := by
 rw [List.take_succ_eq_append_getElem h]; simp [h]
theorem drop_cons (d : α) {l : List α} {i : Nat} (h : i < l.length) : l.drop i = l.getD i d :: l.drop (i + 1) := by
 rw [List.drop_eq_getElem_cons h]; simp [h]
theorem getD_mem (d : α) {l : List α} {i : Nat} (h : i < l.length) : l.getD i d ∈ l := by simp [h]
end

theorem dec_eq {p : Prop} [Decidable p] {b : Bool} (h : p ↔ b = true) : decide p = b := by
 cases b
 ·exact decide_eq_false fun hp => by have := h.1 hp; cases this
 ·exact decide_eq_true (h.2 rfl)
/-! ### Bytes -/
abbrev bt (l : List UInt8) (k : Nat) : UInt8 := l.getD k 0
theorem bt_at {l : List UInt8} {k : Nat} (h : k < l.length) {j : Nat} (hj : j = k) : (bytesA l)[j]? = some (.val (.int .u8 ((bt l k).toNat : Int))) := by
 subst hj; simp [bytesA, h, bt]
theorem u8_lt (x : UInt8) : 0 ≤ (x.toNat : Int) ∧ (x.toNat : Int) < 256 := by have := x.toNat_lt; omega
theorem u8_small {x : Int} (h : 0 ≤ x ∧ x < 256) : ((u8 x).toNat : Int) = x := by rw [u8_toNat]; omega
theorem roB_of {n : Nat} {xs : List AV} {l : List UInt8} (h1 : n = l.length) (h2 : xs = bytesA l) : AV.ro false n xs = roB l := by subst h1; subst h2; rfl
theorem take_bt {l : List UInt8} {k : Nat} (h : k < l.length) : l.take (k + 1) = l.take k ++ [bt l k] := take_snoc 0 h
@[simp] theorem take_bytesA (l : List UInt8) (n : Nat) : (bytesA l).take n = bytesA (l.take n) := by simp [bytesA, List.map_take]
@[simp] theorem drop_bytesA (l : List UInt8) (n : Nat) : (bytesA l).drop n = bytesA (l.drop n) := by simp [bytesA, List.map_drop]
section
variable {P : Program} {E : Env} {H : List HE} {N : Nat} {o : Oper}
end

/-! ### Messages -/
structure Opt where
 num : Int
 val : List UInt8
 deriving DecidableEq
structure Msg where
 ty : Int
 code : Int
 id : Int
 tok : List UInt8
 opts : List Opt
 pay : List UInt8
 deriving DecidableEq
def Opt.none : Opt := ⟨0, []⟩
def Msg.none : Msg := ⟨0, 0, 0, [], [], []⟩
def cellsO (o : Opt) : List AV := [.val (.int .i64 o.num), roB o.val]
theorem cellsO_len (o : Opt) : (cellsO o).length = 2 := rfl
def optsA (os : List Opt) : List AV := os.flatMap cellsO
def roO (os : List Opt) : AV := .ro false os.length (optsA os)
def cellsM (m : Msg) : List AV := [.val (.int .i64 m.ty), .val (.int .i64 m.code), .val (.int .i64 m.id), roB m.tok, roO m.opts, roB m.pay]
abbrev aggM (m : Msg) : AV := .agg [.val (.int .i64 m.ty), .val (.int .i64 m.code), .val (.int .i64 m.id), roB m.tok, roO m.opts, roB m.pay]
abbrev aggO (o : Opt) : AV := .agg [.val (.int .i64 o.num), roB o.val]
theorem roB_cells (l : List UInt8) : (roB l).cells = [roB l] := rfl
theorem roI_cells (l : List Int) : (roI l).cells = [roI l] := rfl
theorem roO_cells (l : List Opt) : (roO l).cells = [roO l] := rfl
abbrev oat (os : List Opt) (k : Nat) : Opt := os.getD k Opt.none
@[simp] theorem optsA_len (os : List Opt) : (optsA os).length = os.length * 2 := flat_len cellsO_len os
theorem optsA_app (a b : List Opt) : optsA (a ++ b) = optsA a ++ optsA b := flat_app a b
theorem optsA_snoc (a : List Opt) (o : Opt) : optsA (a ++ [o]) = optsA a ++ [.val (.int .i64 o.num), roB o.val] := flat_snoc a o
theorem optsA_one (os : List Opt) : (optsA os).all AV.one = true := by
 induction os with
 | nil => rfl
 | cons o os ih => rw [optsA, List.flatMap_cons, List.all_append]; rw [optsA] at ih; rw [ih]; rfl
theorem getO {os : List Opt} {k : Nat} (h : k < os.length) {j : Nat} (hj : j = k) : ((optsA os).drop (j * 2)).take 2 = [.val (.int .i64 (oat os k).num), roB (oat os k).val] := flat_at cellsO_len Opt.none h hj
end Go.Proofs.YtoonnnifelnaiaaGreatDoor.By

namespace Go.Proofs.YtoonnnifelnaiaaGreatDoor.By
open Go.RowKit L A Dk
set_option linter.unusedVariables false
set_option maxRecDepth 20000
set_option linter.unusedSimpArgs false
attribute [local irreducible] AW AQ AO
/-- A row of bytes as yield. -/
def RowB (T : Nat) (l : List UInt8) : AV → List HE → Prop := fun r Hn => ∃ V : Value, V.oneCell' = true ∧ r = .val V ∧ Hn = [.row V T 1 l.length (bytesA l)]
theorem bytesA_snoc (l : List UInt8) (b : UInt8) : bytesA (l ++ [b]) = bytesA l ++ [.val (.int .u8 (b.toNat : Int))] := by simp [bytesA]
theorem retRB {V : Value} {T n : Nat} {l : List UInt8} {xs : List AV} (hV : V.oneCell' = true) (hn : n = l.length) (hx : xs = bytesA l) : RowB T l (.val V) [.row V T 1 n xs] := by
 subst hn; subst hx; exact ⟨V, hV, rfl, rfl⟩
theorem app1_fn (V : Value) (l : List UInt8) (z : Int) (hl : l.length ≤ 1000) (hz : 0 ≤ z ∧ z < 10) : Sp Tryz.prog 119 [.val V, .val (.int .u64 z), .val (.int .i64 10)] [.row V 5 1 l.length (bytesA l)] (RowB 5 (l ++ [u8 (48 + z)])) := by
 have hds : (dig z).size = 1 := rfl
 have e1 : l.length + (dig z).size = (l ++ [u8 (48 + z)]).length := by rw [List.length_append]; rfl
 have e2 : bytesA l ++ List.map AV.val (byteCells (dig z)) = bytesA (l ++ [u8 (48 + z)]) := by rw [bytesA_snoc]; rfl
 refine Sp.enter Tryz.func119 rfl _ Tryz.ntmps119 rfl (fun w0 R0 => ?_)
 refine AW.seq ?_
 refine AW.region ?_
 refine AO.op (O.assign rfl rfl) rfl rfl rfl ?_
 refine AO.nil ?_
 refine AQ.thenN ?_
 refine AW.seq ?_
 refine AW.seq ?_
 refine AW.region ?_
 refine AO.op (O.move rfl rfl) rfl rfl rfl ?_
 refine AO.op (O.eql rfl rfl rfl (by exact beq_iff_eq.2 (by omega))) rfl rfl rfl ?_
 refine AO.nil ?_
 refine AQ.thenN ?_
 refine AW.condT rfl ?_
 refine AW.seq ?_
 refine AW.seq ?_
 refine AW.region ?_
 refine AO.op (O.move rfl rfl) rfl rfl rfl ?_
 refine AO.op (O.lss rfl rfl rfl (by exact bTrue (by omega))) rfl rfl rfl ?_
 refine AO.nil ?_
 refine AQ.thenN ?_
 refine AW.condT rfl ?_
 refine AW.seq ?_
 refine AW.region ?_
 refine AO.op (O.move rfl rfl) rfl rfl rfl ?_
 refine AO.op (O.move rfl rfl) rfl rfl rfl ?_
 refine AO.op (O.conv rfl rfl (by exact wI64 (by omega))) rfl rfl rfl ?_
 refine AO.op (O.call rfl Tryz.func137 rfl rfl rfl (small_fn z ⟨by omega, by omega⟩)) rfl rfl rfl ?_
 (refine AO.append' (i := 0) rfl rfl rfl rfl (by rfl) (by rfl) rfl rfl rfl (by exact SrcA.str TyD.ax (by rfl)) (by rfl) (by (unfold maxLen; omega)) (by omega) (by (dsimp only [List.set, List.append, List.cons_append, List.nil_append, roB_cells, roI_cells, splice, ofConst, AV.cells, List.map, List.map_cons, List.map_nil, List.take, List.drop, Nat.zero_add, Nat.add_zero, Nat.reduceAdd, Nat.reduceMul, Nat.zero_mul, Value.cells, List.toList_toArray, zerosA, List.replicate, List.flatten, List.append_nil]; done)) (fun _ => by (dsimp only [List.set]; done)) ?_)
 intro V1 hV1
 refine AO.op (O.assign rfl rfl) rfl rfl rfl ?_
 refine AO.nil ?_
 refine AQ.thenN ?_
 refine AW.ret ?_
 refine AQ.thenR ?_
 refine AQ.thenR ?_
 refine AQ.ret1 rfl rfl ⟨_, by repeat (first | exact List.Sublist.slnil | refine List.Sublist.cons_cons _ ?_), List.Perm.refl _⟩ (retRB hV1 e1 e2)
theorem app_fn (V : Value) (l : List UInt8) (z : Int) (hl : l.length ≤ 1000) (hz : 0 ≤ z ∧ z < 10) : Sp Tryz.prog 96 [.val V, .val (.int .u64 z), .val (.int .i64 10)] [.row V 5 1 l.length (bytesA l)] (RowB 5 (l ++ [u8 (48 + z)])) := by
 refine Sp.enter Tryz.func96 rfl _ Tryz.ntmps96 rfl (fun w0 R0 => ?_)
 refine AW.seq ?_
 refine AW.region ?_
 refine AO.op (O.assign rfl rfl) rfl rfl rfl ?_
 refine AO.nil ?_
 refine AQ.thenN ?_
 refine AW.seq ?_
 refine AW.region ?_
 refine AO.op (O.move rfl rfl) rfl rfl rfl ?_
 refine AO.op (O.move rfl rfl) rfl rfl rfl ?_
 refine AO.op (O.move rfl rfl) rfl rfl rfl ?_
 refine AO.callMG 0 rfl rfl Tryz.func119 rfl rfl rfl rfl rfl rfl (app1_fn V l z hl hz) ?_
 rintro _ _ ⟨V1, hV1, rfl, rfl⟩
 dsimp only [List.cons_append, List.nil_append, List.eraseIdx]
 refine AO.op (O.assign rfl rfl) rfl rfl rfl ?_
 refine AO.nil ?_
 refine AQ.thenN ?_
 refine AW.ret ?_
 refine AQ.ret1 rfl rfl ⟨_, by repeat (first | exact List.Sublist.slnil | refine List.Sublist.cons_cons _ ?_), List.Perm.refl _⟩ (⟨V1, hV1, rfl, rfl⟩)
/-! ### The text 1 -/
theorem parse1_fn : Sp Tryz.prog 124 [.val (.string ⟨#[49]⟩), .val (.int .i64 10), .val (.int .i64 64)] [] (Is (.tup [.val (.int .u64 1), .val .nilIface])) := by
 have q1 : ((⟨#[49]⟩ : ByteArray).toList == (⟨#[]⟩ : ByteArray).toList) = false := by decide +kernel
 have hlen : ([49] : List UInt8).length = 1 := rfl
 refine Sp.enter Tryz.func124 rfl _ Tryz.ntmps124 rfl (fun w0 R0 => ?_)
 refine AW.seq ?_
 refine AW.region ?_
 refine AO.op (O.assign rfl rfl) rfl rfl rfl ?_
 refine AO.op (O.assign rfl rfl) rfl rfl rfl ?_
 refine AO.nil ?_
 refine AQ.thenN ?_
 refine AW.seq ?_
 refine AW.seq ?_
 refine AW.region ?_
 refine AO.op (O.move rfl rfl) rfl rfl rfl ?_
 refine AO.op (O.eqlS rfl rfl rfl (by assumption)) rfl rfl rfl ?_
 refine AO.nil ?_
 refine AQ.thenN ?_
 refine AW.condF rfl ?_
 refine AW.skip ?_
 refine AQ.thenN ?_
 refine AW.seq ?_
 refine AW.region ?_
 refine AO.op (O.move rfl rfl) rfl rfl rfl ?_
 refine AO.op (O.eql rfl rfl rfl (by exact beq_eq_false_iff_ne.2 (by omega))) rfl rfl rfl ?_
 refine AO.op (O.assign rfl rfl) rfl rfl rfl ?_
 refine AO.nil ?_
 refine AQ.thenN ?_
 refine AW.seq ?_
 refine AW.region ?_
 refine AO.op (O.move rfl rfl) rfl rfl rfl ?_
 refine AO.op (O.assign rfl rfl) rfl rfl rfl ?_
 refine AO.nil ?_
 refine AQ.thenN ?_
 refine AW.seq ?_
 refine AW.block ?_
 refine AW.seq ?_
 refine AW.region ?_
 refine AO.op (O.move rfl rfl) rfl rfl rfl ?_
 refine AO.op (O.leq rfl rfl rfl (by exact bTrue (by omega))) rfl rfl rfl ?_
 refine AO.op (O.move rfl rfl) rfl rfl rfl ?_
 refine AO.opG rfl rfl rfl (fun hp => O.move rfl rfl) ?_
 refine AO.opG rfl rfl rfl (fun hp => OpW.force 29 rfl (by exact hp) (O.leq rfl rfl rfl (by exact bTrue (by omega)))) ?_
 refine AO.op (O.pickAnd rfl rfl rfl rfl (fun h => by exact h)) rfl rfl rfl ?_
 refine AO.op (O.assign rfl rfl) rfl rfl rfl ?_
 refine AO.nil ?_
 refine AQ.thenN ?_
 refine AW.condT rfl ?_
 refine AW.skip ?_
 refine AQ.blockN ?_
 refine AQ.thenN ?_
 refine AW.seq ?_
 refine AW.seq ?_
 refine AW.region ?_
 refine AO.op (O.move rfl rfl) rfl rfl rfl ?_
 refine AO.op (O.eql rfl rfl rfl (by exact beq_eq_false_iff_ne.2 (by omega))) rfl rfl rfl ?_
 refine AO.nil ?_
 refine AQ.thenN ?_
 refine AW.condF rfl ?_
 refine AW.seq ?_
 refine AW.region ?_
 refine AO.op (O.move rfl rfl) rfl rfl rfl ?_
 refine AO.op (O.lss rfl rfl rfl (by exact bFalse (by omega))) rfl rfl rfl ?_
 refine AO.op (O.move rfl rfl) rfl rfl rfl ?_
 refine AO.opG rfl rfl rfl (fun hp => O.move rfl rfl) ?_
 refine AO.opG rfl rfl rfl (fun hp => OpW.force 81 rfl (by exact hp) (O.gtr rfl rfl rfl (by exact bFalse (by omega)))) ?_
 refine AO.op (O.pickOr rfl rfl rfl rfl (fun h => by exact congrArg (fun b => !b) h)) rfl rfl rfl ?_
 refine AO.nil ?_
 refine AQ.thenN ?_
 refine AW.condF rfl ?_
 refine AW.skip ?_
 refine AQ.thenN ?_
 refine AW.seq ?_
 refine AW.region ?_
 refine AO.op (O.assign rfl rfl) rfl rfl rfl ?_
 refine AO.nil ?_
 refine AQ.thenN ?_
 refine AW.seq ?_
 refine AW.seq ?_
 refine AW.region ?_
 refine AO.op (O.move rfl rfl) rfl rfl rfl ?_
 refine AO.nil ?_
 refine AQ.thenN ?_
 refine AW.block ?_
 refine AW.seq ?_
 refine AW.region ?_
 refine AO.op (O.eql rfl rfl rfl (by exact beq_iff_eq.2 (by omega))) rfl rfl rfl ?_
 refine AO.op (O.assign rfl rfl) rfl rfl rfl ?_
 refine AO.nil ?_
 refine AQ.thenN ?_
 refine AW.condT rfl ?_
 refine AW.region ?_
 refine AO.op (O.assign rfl rfl) rfl rfl rfl ?_
 refine AO.nil ?_
 refine AQ.blockN ?_
 refine AQ.thenN ?_
 refine AW.seq ?_
 refine AW.region ?_
 refine AO.op (O.move rfl rfl) rfl rfl rfl ?_
 refine AO.op (O.conv rfl rfl (by exact wU64 (by omega))) rfl rfl rfl ?_
 refine AO.op (O.shl rfl rfl rfl (by omega) rfl) rfl rfl rfl ?_
 refine AO.op (O.sub rfl rfl rfl (by rfl)) rfl rfl rfl ?_
 refine AO.op (O.assign rfl rfl) rfl rfl rfl ?_
 refine AO.nil ?_
 refine AQ.thenN ?_
 refine AW.seq ?_
 refine AW.region ?_
 refine AO.op (O.assign rfl rfl) rfl rfl rfl ?_
 refine AO.nil ?_
 refine AQ.thenN ?_
 refine AW.seq ?_
 refine AW.region ?_
 refine AO.op (O.assign rfl rfl) rfl rfl rfl ?_
 refine AO.nil ?_
 refine AQ.thenN ?_
 refine AW.seq ?_
 refine AW.seq ?_
 refine AW.region ?_
 refine AO.op (O.move rfl rfl) rfl rfl rfl ?_
 refine AO.op (O.toBytes rfl rfl rfl (by (unfold maxLen; simp; done))) rfl rfl rfl ?_
 refine AO.op (O.lenR rfl rfl) rfl rfl rfl ?_
 refine AO.op (O.move rfl rfl) rfl rfl rfl ?_
 refine AO.nil ?_
 refine AQ.thenN ?_
 refine AW.block ?_
 refine AW.loopK [(1, _), (8, _), (9, _), (10, _), (11, _), (99, _), (100, _)] (fun nn E H => ∃ (k : Nat), (k ≤ 1) ∧ nn = 1 - k ∧ E = [(12, .val (.bool false)), (13, .val (.int .u64 (k : Int))), (101, .val (.int .i64 (k : Int)))] ∧ H = []) _ (⟨0, by omega, rfl, rfl, rfl⟩) (by repeat (first | exact envNil | refine envCons rfl ?_)) (by repeat (first | exact envNil | refine envCons rfl ?_)) (by repeat (exact subPnil)) ?_
 rintro nn E H ⟨k, hk, rfl, rfl, rfl⟩
 dsimp only [List.cons_append, List.nil_append]
 refine AW.seq ?_
 refine AW.region ?_
 refine AO.op (O.lss rfl rfl rfl (by rfl)) rfl rfl rfl ?_
 refine AO.nil ?_
 refine AQ.thenN ?_
 refine AW.seq ?_
 refine AW.split rfl (fun hlt => ?_) (fun hlt => ?_) <;> (try simp only [decide_eq_true_eq, decide_eq_false_iff_not, beq_iff_eq, beq_eq_false_iff_ne, bne_iff_ne, bne_eq_false_iff_eq, Bool.not_eq_true', Bool.not_eq_false', Bool.not_eq_true, Bool.not_eq_false, ne_eq, Int.not_lt, Int.not_le, Bool.and_eq_true, Bool.or_eq_true, Bool.or_eq_false_iff, Bool.and_eq_false_imp, strOf_toList, Decidable.not_not] at hlt)
 ·skip
  obtain rfl : k = 0 := by omega
  refine AW.skip ?_
  refine AQ.thenN ?_
  refine AW.seq ?_
  refine AW.block ?_
  refine AW.seq ?_
  refine AW.region ?_
  refine AO.op (O.idxR rfl rfl rfl ⟨(by omega), (by omega)⟩) rfl rfl rfl ?_
  refine AO.op (O.loadR rfl rfl (by rfl)) rfl rfl rfl ?_
  refine AO.op (O.assign rfl rfl) rfl rfl rfl ?_
  refine AO.nil ?_
  refine AQ.thenN ?_
  refine AW.seq ?_
  refine AW.region ?_
  refine AO.op (O.assign rfl rfl) rfl rfl rfl ?_
  refine AO.nil ?_
  refine AQ.thenN ?_
  refine AW.seq ?_
  refine AW.block ?_
  refine AW.seq ?_
  refine AW.region ?_
  refine AO.op (O.move rfl rfl) rfl rfl rfl ?_
  refine AO.op (O.eql rfl rfl rfl (by rfl)) rfl rfl rfl ?_
  refine AO.op (O.move rfl rfl) rfl rfl rfl ?_
  refine AO.opG rfl rfl rfl (fun hp => O.move rfl rfl) ?_
  refine AO.op (O.pickAnd rfl rfl rfl rfl (fun h => by exact h)) rfl rfl rfl ?_
  refine AO.op (O.assign rfl rfl) rfl rfl rfl ?_
  refine AO.nil ?_
  refine AQ.thenN ?_
  refine AW.condF rfl ?_
  refine AW.seq ?_
  refine AW.region ?_
  refine AO.op (O.move rfl rfl) rfl rfl rfl ?_
  refine AO.op (O.leq rfl rfl rfl (by rfl)) rfl rfl rfl ?_
  refine AO.op (O.move rfl rfl) rfl rfl rfl ?_
  refine AO.opG rfl rfl rfl (fun hp => O.move rfl rfl) ?_
  refine AO.opG rfl rfl rfl (fun hp => OpW.force 116 rfl (by exact hp) (O.leq rfl rfl rfl (by assumption))) ?_
  refine AO.op (O.pickAnd rfl rfl rfl rfl (fun h => by exact h)) rfl rfl rfl ?_
  refine AO.op (O.assign rfl rfl) rfl rfl rfl ?_
  refine AO.nil ?_
  refine AQ.thenN ?_
  refine AW.condT rfl ?_
  refine AW.region ?_
  refine AO.op (O.move rfl rfl) rfl rfl rfl ?_
  refine AO.op (O.sub rfl rfl rfl (by rfl)) rfl rfl rfl ?_
  refine AO.op (O.assign rfl rfl) rfl rfl rfl ?_
  refine AO.nil ?_
  refine AQ.blockN ?_
  refine AQ.thenN ?_
  refine AW.seq ?_
  refine AW.seq ?_
  refine AW.region ?_
  refine AO.op (O.move rfl rfl) rfl rfl rfl ?_
  refine AO.op (O.move rfl rfl) rfl rfl rfl ?_
  refine AO.op (O.conv rfl rfl (by exact wU8 (by omega))) rfl rfl rfl ?_
  refine AO.op (O.geq rfl rfl rfl (by rfl)) rfl rfl rfl ?_
  refine AO.nil ?_
  refine AQ.thenN ?_
  refine AW.condF rfl ?_
  refine AW.skip ?_
  refine AQ.thenN ?_
  refine AW.seq ?_
  refine AW.seq ?_
  refine AW.region ?_
  refine AO.op (O.move rfl rfl) rfl rfl rfl ?_
  refine AO.op (O.move rfl rfl) rfl rfl rfl ?_
  refine AO.op (O.geq rfl rfl rfl (by exact bFalse (by omega))) rfl rfl rfl ?_
  refine AO.nil ?_
  refine AQ.thenN ?_
  refine AW.condF rfl ?_
  refine AW.skip ?_
  refine AQ.thenN ?_
  refine AW.seq ?_
  refine AW.region ?_
  refine AO.op (O.move rfl rfl) rfl rfl rfl ?_
  refine AO.op (O.move rfl rfl) rfl rfl rfl ?_
  refine AO.op (O.conv rfl rfl (by exact wU64 (by omega))) rfl rfl rfl ?_
  refine AO.op (O.mul rfl rfl rfl (by exact wU64 (by omega))) rfl rfl rfl ?_
  refine AO.op (O.assign rfl rfl) rfl rfl rfl ?_
  refine AO.nil ?_
  refine AQ.thenN ?_
  refine AW.seq ?_
  refine AW.region ?_
  refine AO.op (O.move rfl rfl) rfl rfl rfl ?_
  refine AO.op (O.move rfl rfl) rfl rfl rfl ?_
  refine AO.op (O.conv rfl rfl (by rfl)) rfl rfl rfl ?_
  refine AO.op (O.add rfl rfl rfl (by rfl)) rfl rfl rfl ?_
  refine AO.op (O.assign rfl rfl) rfl rfl rfl ?_
  refine AO.nil ?_
  refine AQ.thenN ?_
  refine AW.seq ?_
  refine AW.seq ?_
  refine AW.region ?_
  refine AO.op (O.move rfl rfl) rfl rfl rfl ?_
  refine AO.op (O.move rfl rfl) rfl rfl rfl ?_
  refine AO.op (O.lss rfl rfl rfl (by rfl)) rfl rfl rfl ?_
  refine AO.op (O.move rfl rfl) rfl rfl rfl ?_
  refine AO.opG rfl rfl rfl (fun hp => O.move rfl rfl) ?_
  refine AO.opG rfl rfl rfl (fun hp => O.move rfl rfl) ?_
  refine AO.opG rfl rfl rfl (fun hp => OpW.force 156 rfl (by exact hp) (OpW.force 157 rfl (by exact hp) (O.gtr rfl rfl rfl (by rfl)))) ?_
  refine AO.op (O.pickOr rfl rfl rfl rfl (fun h => by exact congrArg (fun b => !b) h)) rfl rfl rfl ?_
  refine AO.nil ?_
  refine AQ.thenN ?_
  refine AW.condF rfl ?_
  refine AW.skip ?_
  refine AQ.thenN ?_
  refine AW.region ?_
  refine AO.op (O.move rfl rfl) rfl rfl rfl ?_
  refine AO.op (O.assign rfl rfl) rfl rfl rfl ?_
  refine AO.nil ?_
  refine AQ.blockN ?_
  refine AQ.thenN ?_
  refine AW.region ?_
  refine AO.op (O.add rfl rfl rfl (by exact wI64 (by omega))) rfl rfl rfl ?_
  refine AO.op (O.move rfl rfl) rfl rfl rfl ?_
  refine AO.nil ?_
  refine AQ.loopKN _ _ _ (by omega) (⟨1, by omega, rfl, rfl, rfl⟩) (by repeat (first | exact envNil | refine envCons rfl ?_)) (by repeat (first | exact envNil | refine envCons rfl ?_)) (by repeat (exact subPnil))
 ·skip
  obtain rfl : k = 1 := by omega
  refine AW.exit ?_
  refine AQ.thenX ?_
  refine AQ.loopX ?_
  refine AQ.blockX rfl ?_
  refine AQ.thenN ?_
  refine AW.seq ?_
  refine AW.seq ?_
  refine AW.region ?_
  refine AO.op (O.move rfl rfl) rfl rfl rfl ?_
  refine AO.op (O.move rfl rfl) rfl rfl rfl ?_
  refine AO.opG rfl rfl rfl (fun hp => O.move rfl rfl) ?_
  refine AO.no rfl rfl rfl ?_
  refine AO.no rfl rfl rfl ?_
  refine AO.op (O.pickF rfl rfl rfl) rfl rfl rfl ?_
  refine AO.nil ?_
  refine AQ.thenN ?_
  refine AW.condF rfl ?_
  refine AW.skip ?_
  refine AQ.thenN ?_
  refine AW.seq ?_
  refine AW.region ?_
  refine AO.op (O.move rfl rfl) rfl rfl rfl ?_
  refine AO.op (O.assign rfl rfl) rfl rfl rfl ?_
  refine AO.op (O.assign rfl rfl) rfl rfl rfl ?_
  refine AO.nil ?_
  refine AQ.thenN ?_
  refine AW.ret ?_
  refine AQ.ret2 rfl rfl rfl ⟨_, List.nil_sublist _, .nil⟩ (⟨rfl, rfl⟩)
end Go.Proofs.YtoonnnifelnaiaaGreatDoor.By

namespace Go.Proofs.YtoonnnifelnaiaaGreatDoor.A
open Go.RowKit L
set_option linter.unusedVariables false
set_option maxRecDepth 20000
set_option linter.unusedSimpArgs false
section
variable {Γ : Cx} {P : Program} {Q : Exit → Act → World → Prop} {E : Env} {H : List HE} {N : Nat} {o : Oper} {ops : Array Oper} {rest : List Oper}
end
end Go.Proofs.YtoonnnifelnaiaaGreatDoor.A

namespace Go.Proofs.YtoonnnifelnaiaaGreatDoor.By
open Go.RowKit L A Dk
set_option linter.unusedVariables false
set_option maxRecDepth 20000
set_option linter.unusedSimpArgs false
attribute [local irreducible] AW AQ AO
theorem pparse1_fn : Sp Tryz.prog 106 [.val (.string ⟨#[49]⟩), .val (.int .i64 10), .val (.int .i64 64)] [] (Is (.tup [.val (.int .u64 1), .val .nilIface])) := by
 refine Sp.enter Tryz.func106 rfl _ Tryz.ntmps106 rfl (fun w0 R0 => ?_)
 refine AW.seq ?_
 refine AW.region ?_
 refine AO.op (O.assign rfl rfl) rfl rfl rfl ?_
 refine AO.op (O.assign rfl rfl) rfl rfl rfl ?_
 refine AO.nil ?_
 refine AQ.thenN ?_
 refine AW.seq ?_
 refine AW.region ?_
 refine AO.op (O.move rfl rfl) rfl rfl rfl ?_
 refine AO.op (O.move rfl rfl) rfl rfl rfl ?_
 refine AO.op (O.move rfl rfl) rfl rfl rfl ?_
 refine AO.op (O.call rfl Tryz.func124 rfl rfl rfl (parse1_fn)) rfl rfl rfl ?_
 refine AO.op (O.move rfl rfl) rfl rfl rfl ?_
 refine AO.op (O.extract rfl rfl rfl) rfl rfl rfl ?_
 refine AO.op (O.extract rfl rfl rfl) rfl rfl rfl ?_
 refine AO.op (O.assign rfl rfl) rfl rfl rfl ?_
 refine AO.op (O.assign rfl rfl) rfl rfl rfl ?_
 refine AO.nil ?_
 refine AQ.thenN ?_
 refine AW.seq ?_
 refine AW.seq ?_
 refine AW.region ?_
 refine AO.op (O.move rfl rfl) rfl rfl rfl ?_
 refine AO.op (O.neqNilI ⟨_, Tryz.underlying175⟩ rfl rfl) rfl rfl rfl ?_
 refine AO.nil ?_
 refine AQ.thenN ?_
 refine AW.condF rfl ?_
 refine AW.skip ?_
 refine AQ.thenN ?_
 refine AW.seq ?_
 refine AW.region ?_
 refine AO.op (O.move rfl rfl) rfl rfl rfl ?_
 refine AO.op (O.assign rfl rfl) rfl rfl rfl ?_
 refine AO.op (O.assign rfl rfl) rfl rfl rfl ?_
 refine AO.nil ?_
 refine AQ.thenN ?_
 refine AW.ret ?_
 refine AQ.ret2 rfl rfl rfl ⟨_, List.nil_sublist _, .nil⟩ (⟨rfl, rfl⟩)
abbrev t1 : ByteArray := ⟨#[49, 93]⟩
abbrev t2 : ByteArray := ⟨#[93]⟩
theorem number_fn (B : Nat) : Sp Tryz.prog 103 [ptr B] [parsB B ⟨#[49, 93]⟩ 2 false] (IsM (.val (.int .u64 1)) (parsB B ⟨#[93]⟩ 2 false)) := by
 have z1 : (⟨#[49, 93]⟩ : ByteArray).size = 2 := rfl
 have x1 : (⟨#[49, 93]⟩ : ByteArray).extract 0 1 = ⟨#[49]⟩ := by decide +kernel
 have x2 : (⟨#[49, 93]⟩ : ByteArray).extract 1 (⟨#[49, 93]⟩ : ByteArray).size = ⟨#[93]⟩ := by decide +kernel
 have y1 : (⟨#[49, 93]⟩ : ByteArray).toList[(((0 : Nat) : Int)).toNat]? = some 49 := by decide +kernel
 have y2 : (⟨#[49, 93]⟩ : ByteArray).toList[(((1 : Nat) : Int)).toNat]? = some 93 := by decide +kernel
 have v1 : (((49 : UInt8).toNat : Nat) : Int) = 49 := rfl
 have v2 : (((93 : UInt8).toNat : Nat) : Int) = 93 := rfl
 refine Sp.enter Tryz.func103 rfl _ Tryz.ntmps103 rfl (fun w0 R0 => ?_)
 refine AW.seq ?_
 refine AW.region ?_
 refine AO.op (O.assign rfl rfl) rfl rfl rfl ?_
 refine AO.nil ?_
 refine AQ.thenN ?_
 refine AW.seq ?_
 refine AW.region ?_
 refine AO.op (O.assign rfl rfl) rfl rfl rfl ?_
 refine AO.nil ?_
 refine AQ.thenN ?_
 refine AW.seq ?_
 refine AW.block ?_
 refine AW.loopK [(0, _)] (fun nn E H => ∃ (k : Nat), (k ≤ 1) ∧ nn = 1 - k ∧ E = [(3, .val (.int .i64 (k : Int)))] ∧ H = [parsB B ⟨#[49, 93]⟩ 2 false]) _ (⟨0, by omega, rfl, rfl, rfl⟩) (by repeat (first | exact envNil | refine envCons rfl ?_)) (by repeat (first | exact envNil | refine envCons rfl ?_)) (by repeat (first | exact subPnil | refine subPcons 0 rfl ?_)) ?_
 rintro nn E H ⟨k, hk, rfl, rfl, rfl⟩
 dsimp only [List.cons_append, List.nil_append]
 obtain rfl | rfl : k = 0 ∨ k = 1 := by omega
 ·skip
  refine AW.seq ?_
  refine AW.seq ?_
  refine AW.region ?_
  refine AO.op (O.move rfl rfl) rfl rfl rfl ?_
  refine AO.op (O.move rfl rfl) rfl rfl rfl ?_
  refine AO.op (O.nilCheck rfl rfl) rfl rfl rfl ?_
  refine AO.op (O.fieldAddr rfl rfl) rfl rfl rfl ?_
  refine AO.op (O.load rfl rfl (by repeat (exact List.Mem.head _)) (by rfl)) rfl rfl rfl ?_
  refine AO.op (O.lenS rfl rfl) rfl rfl rfl ?_
  refine AO.op (O.lss rfl rfl rfl (by exact bTrue (by omega))) rfl rfl rfl ?_
  refine AO.op (O.move rfl rfl) rfl rfl rfl ?_
  refine AO.opG rfl rfl rfl (fun hp => O.move rfl rfl) ?_
  refine AO.opG rfl rfl rfl (fun hp => OpW.force 14 rfl (by exact hp) (O.nilCheck rfl rfl)) ?_
  refine AO.opG rfl rfl rfl (fun hp => OpW.force 15 rfl (by exact hp) (O.fieldAddr rfl rfl)) ?_
  refine AO.opG rfl rfl rfl (fun hp => OpW.force 16 rfl (by exact hp) (O.load rfl rfl (by repeat (exact List.Mem.head _)) (by rfl))) ?_
  refine AO.opG rfl rfl rfl (fun hp => O.move rfl rfl) ?_
  refine AO.opG rfl rfl rfl (fun hp => OpW.force 17 rfl (by exact hp) (OpW.force 18 rfl (by exact hp) (O.indexS rfl rfl rfl ⟨by omega, by assumption⟩))) ?_
  refine AO.opG rfl rfl rfl (fun hp => OpW.force 19 rfl (by exact hp) (O.geq rfl rfl rfl (by exact bTrue (by omega)))) ?_
  refine AO.op (O.pickAnd rfl rfl rfl rfl (fun h => by exact h)) rfl rfl rfl ?_
  refine AO.op (O.move rfl rfl) rfl rfl rfl ?_
  refine AO.opG rfl rfl rfl (fun hp => O.move rfl rfl) ?_
  refine AO.opG rfl rfl rfl (fun hp => OpW.force 23 rfl (by exact hp) (O.nilCheck rfl rfl)) ?_
  refine AO.opG rfl rfl rfl (fun hp => OpW.force 24 rfl (by exact hp) (O.fieldAddr rfl rfl)) ?_
  refine AO.opG rfl rfl rfl (fun hp => OpW.force 25 rfl (by exact hp) (O.load rfl rfl (by repeat (exact List.Mem.head _)) (by rfl))) ?_
  refine AO.opG rfl rfl rfl (fun hp => O.move rfl rfl) ?_
  refine AO.opG rfl rfl rfl (fun hp => OpW.force 26 rfl (by exact hp) (OpW.force 27 rfl (by exact hp) (O.indexS rfl rfl rfl ⟨by omega, by assumption⟩))) ?_
  refine AO.opG rfl rfl rfl (fun hp => OpW.force 28 rfl (by exact hp) (O.leq rfl rfl rfl (by exact bTrue (by omega)))) ?_
  refine AO.op (O.pickAnd rfl rfl rfl rfl (fun h => by exact h)) rfl rfl rfl ?_
  refine AO.nil ?_
  refine AQ.thenN ?_
  refine AW.condT rfl ?_
  refine AW.skip ?_
  refine AQ.thenN ?_
  refine AW.block ?_
  refine AW.region ?_
  refine AO.op (O.move rfl rfl) rfl rfl rfl ?_
  refine AO.op (O.add rfl rfl rfl (by exact wI64 (by omega))) rfl rfl rfl ?_
  refine AO.op (O.assign rfl rfl) rfl rfl rfl ?_
  refine AO.nil ?_
  refine AQ.blockN ?_
  refine AQ.loopKN _ _ _ (by omega) (⟨1, by omega, rfl, rfl, rfl⟩) (by repeat (first | exact envNil | refine envCons rfl ?_)) (by repeat (first | exact envNil | refine envCons rfl ?_)) (by repeat (first | exact subPnil | refine subPcons 0 rfl ?_))
 ·skip
  refine AW.seq ?_
  refine AW.seq ?_
  refine AW.region ?_
  refine AO.op (O.move rfl rfl) rfl rfl rfl ?_
  refine AO.op (O.move rfl rfl) rfl rfl rfl ?_
  refine AO.op (O.nilCheck rfl rfl) rfl rfl rfl ?_
  refine AO.op (O.fieldAddr rfl rfl) rfl rfl rfl ?_
  refine AO.op (O.load rfl rfl (by repeat (exact List.Mem.head _)) (by rfl)) rfl rfl rfl ?_
  refine AO.op (O.lenS rfl rfl) rfl rfl rfl ?_
  refine AO.op (O.lss rfl rfl rfl (by exact bTrue (by omega))) rfl rfl rfl ?_
  refine AO.op (O.move rfl rfl) rfl rfl rfl ?_
  refine AO.opG rfl rfl rfl (fun hp => O.move rfl rfl) ?_
  refine AO.opG rfl rfl rfl (fun hp => OpW.force 14 rfl (by exact hp) (O.nilCheck rfl rfl)) ?_
  refine AO.opG rfl rfl rfl (fun hp => OpW.force 15 rfl (by exact hp) (O.fieldAddr rfl rfl)) ?_
  refine AO.opG rfl rfl rfl (fun hp => OpW.force 16 rfl (by exact hp) (O.load rfl rfl (by repeat (exact List.Mem.head _)) (by rfl))) ?_
  refine AO.opG rfl rfl rfl (fun hp => O.move rfl rfl) ?_
  refine AO.opG rfl rfl rfl (fun hp => OpW.force 17 rfl (by exact hp) (OpW.force 18 rfl (by exact hp) (O.indexS rfl rfl rfl ⟨by omega, by assumption⟩))) ?_
  refine AO.opG rfl rfl rfl (fun hp => OpW.force 19 rfl (by exact hp) (O.geq rfl rfl rfl (by exact bTrue (by omega)))) ?_
  refine AO.op (O.pickAnd rfl rfl rfl rfl (fun h => by exact h)) rfl rfl rfl ?_
  refine AO.op (O.move rfl rfl) rfl rfl rfl ?_
  refine AO.opG rfl rfl rfl (fun hp => O.move rfl rfl) ?_
  refine AO.opG rfl rfl rfl (fun hp => OpW.force 23 rfl (by exact hp) (O.nilCheck rfl rfl)) ?_
  refine AO.opG rfl rfl rfl (fun hp => OpW.force 24 rfl (by exact hp) (O.fieldAddr rfl rfl)) ?_
  refine AO.opG rfl rfl rfl (fun hp => OpW.force 25 rfl (by exact hp) (O.load rfl rfl (by repeat (exact List.Mem.head _)) (by rfl))) ?_
  refine AO.opG rfl rfl rfl (fun hp => O.move rfl rfl) ?_
  refine AO.opG rfl rfl rfl (fun hp => OpW.force 26 rfl (by exact hp) (OpW.force 27 rfl (by exact hp) (O.indexS rfl rfl rfl ⟨by omega, by assumption⟩))) ?_
  refine AO.opG rfl rfl rfl (fun hp => OpW.force 28 rfl (by exact hp) (O.leq rfl rfl rfl (by exact bFalse (by omega)))) ?_
  refine AO.op (O.pickAnd rfl rfl rfl rfl (fun h => by exact h)) rfl rfl rfl ?_
  refine AO.nil ?_
  refine AQ.thenN ?_
  refine AW.condF rfl ?_
  refine AW.exit ?_
  refine AQ.thenX ?_
  refine AQ.loopX ?_
  refine AQ.blockX rfl ?_
  refine AQ.thenN ?_
  refine AW.seq ?_
  refine AW.region ?_
  refine AO.op (O.move rfl rfl) rfl rfl rfl ?_
  refine AO.op (O.nilCheck rfl rfl) rfl rfl rfl ?_
  refine AO.op (O.fieldAddr rfl rfl) rfl rfl rfl ?_
  refine AO.op (O.load rfl rfl (by repeat (exact List.Mem.head _)) (by rfl)) rfl rfl rfl ?_
  refine AO.op (O.move rfl rfl) rfl rfl rfl ?_
  refine AO.op (O.sliceS rfl rfl (by exact rfl) (by exact ⟨_, _, rfl, by rfl⟩) (by omega) (by omega) (by assumption)) rfl rfl rfl ?_
  refine AO.op (O.call rfl Tryz.func106 rfl rfl rfl (pparse1_fn)) rfl rfl rfl ?_
  refine AO.op (O.move rfl rfl) rfl rfl rfl ?_
  refine AO.op (O.extract rfl rfl rfl) rfl rfl rfl ?_
  refine AO.op (O.extract rfl rfl rfl) rfl rfl rfl ?_
  refine AO.op (O.assign rfl rfl) rfl rfl rfl ?_
  refine AO.op (O.assign rfl rfl) rfl rfl rfl ?_
  refine AO.nil ?_
  refine AQ.thenN ?_
  refine AW.seq ?_
  refine AW.region ?_
  refine AO.op (O.move rfl rfl) rfl rfl rfl ?_
  refine AO.op (O.move rfl rfl) rfl rfl rfl ?_
  refine AO.op (O.nilCheck rfl rfl) rfl rfl rfl ?_
  refine AO.op (O.fieldAddr rfl rfl) rfl rfl rfl ?_
  refine AO.op (O.load rfl rfl (by repeat (exact List.Mem.head _)) (by rfl)) rfl rfl rfl ?_
  refine AO.op (O.move rfl rfl) rfl rfl rfl ?_
  refine AO.opG rfl rfl rfl (fun hp => O.move rfl rfl) ?_
  refine AO.opG rfl rfl rfl (fun hp => OpW.force 49 rfl (by exact hp) (O.neqNilI ⟨_, Tryz.underlying175⟩ rfl rfl)) ?_
  refine AO.op (O.pickOr rfl rfl rfl rfl (fun h => by exact congrArg (fun b => !b) h)) rfl rfl rfl ?_
  refine AO.op (O.move rfl rfl) rfl rfl rfl ?_
  refine AO.opG rfl rfl rfl (fun hp => O.move rfl rfl) ?_
  refine AO.opG rfl rfl rfl (fun hp => OpW.force 53 rfl (by exact hp) (O.gtr rfl rfl rfl (by exact bFalse (by omega)))) ?_
  refine AO.opG rfl rfl rfl (fun hp => OpW.force 54 rfl (by exact hp) (O.move rfl rfl)) ?_
  refine AO.opG rfl rfl rfl (fun hp => O.move rfl rfl) ?_
  refine AO.opG rfl rfl rfl (fun hp => OpW.force 56 rfl (by exact hp) (O.nilCheck rfl rfl)) ?_
  refine AO.opG rfl rfl rfl (fun hp => OpW.force 57 rfl (by exact hp) (O.fieldAddr rfl rfl)) ?_
  refine AO.opG rfl rfl rfl (fun hp => OpW.force 58 rfl (by exact hp) (O.load rfl rfl (by repeat (exact List.Mem.head _)) (by rfl))) ?_
  refine AO.opG rfl rfl rfl (fun hp => OpW.force 59 rfl (by exact hp) (O.indexS rfl rfl rfl ⟨by omega, by assumption⟩)) ?_
  refine AO.opG rfl rfl rfl (fun hp => OpW.force 60 rfl (by exact hp) (O.eql rfl rfl rfl (by exact beq_eq_false_iff_ne.2 (by omega)))) ?_
  refine AO.opG rfl rfl rfl (fun hp => OpW.force 55 rfl (by exact hp) (O.pickAnd rfl rfl rfl rfl (fun h => by exact h))) ?_
  refine AO.op (O.pickOr rfl rfl rfl rfl (fun h => by exact congrArg (fun b => !b) h)) rfl rfl rfl ?_
  refine AO.op (O.nilCheck rfl rfl) rfl rfl rfl ?_
  refine AO.op (O.fieldAddr rfl rfl) rfl rfl rfl ?_
  (refine AO.store (i := 0) rfl rfl rfl rfl rfl rfl (by rfl) (by rfl) (by rfl) (by (dsimp only [List.set, List.cons_append, List.nil_append, List.take, List.drop]; done)) (by (dsimp only [List.set, List.cons_append, List.nil_append, List.take, List.drop]; done)) ?_)
  refine AO.nil ?_
  refine AQ.thenN ?_
  refine AW.seq ?_
  refine AW.region ?_
  refine AO.op (O.move rfl rfl) rfl rfl rfl ?_
  refine AO.op (O.move rfl rfl) rfl rfl rfl ?_
  refine AO.op (O.nilCheck rfl rfl) rfl rfl rfl ?_
  refine AO.op (O.fieldAddr rfl rfl) rfl rfl rfl ?_
  refine AO.op (O.load rfl rfl (by repeat (exact List.Mem.head _)) (by rfl)) rfl rfl rfl ?_
  refine AO.op (O.move rfl rfl) rfl rfl rfl ?_
  refine AO.op (O.sliceS rfl rfl (by exact ⟨_, _, rfl, by rfl⟩) (by exact rfl) (by omega) (by omega) (by assumption)) rfl rfl rfl ?_
  refine AO.op (O.nilCheck rfl rfl) rfl rfl rfl ?_
  refine AO.op (O.fieldAddr rfl rfl) rfl rfl rfl ?_
  (refine AO.store (i := 0) rfl rfl rfl rfl rfl rfl (by rfl) (by rfl) (by rfl) (by (dsimp only [List.set, List.cons_append, List.nil_append, List.take, List.drop]; done)) (by (dsimp only [List.set, List.cons_append, List.nil_append, List.take, List.drop]; done)) ?_)
  refine AO.nil ?_
  refine AQ.thenN ?_
  refine AW.seq ?_
  refine AW.region ?_
  refine AO.op (O.move rfl rfl) rfl rfl rfl ?_
  refine AO.op (O.assign rfl rfl) rfl rfl rfl ?_
  refine AO.nil ?_
  refine AQ.thenN ?_
  refine AW.ret ?_
  refine AQ.ret1 rfl rfl ⟨_, by repeat (first | exact List.Sublist.slnil | refine List.Sublist.cons_cons _ ?_), List.Perm.refl _⟩ (⟨rfl, rfl⟩)
 skip
abbrev namesV : List Value := [.string ⟨#[102, 97, 108, 115, 101]⟩, .string ⟨#[116, 114, 117, 101]⟩, .string ⟨#[110, 117, 108, 108]⟩, .string ⟨#[117, 110, 100, 101, 102, 105, 110, 101, 100]⟩]
abbrev GN (W : World) : Prop := GK 0 namesV W
abbrev uintA (k n : Int) : List AV := [.val (.int .i64 k), .val (.int .u64 n), .val (.slice none 0 0), .val (.slice none 0 0)]
abbrev arrA (n : Nat) (xs : List AV) : List AV := [.val (.int .i64 4), .val (.int .u64 0), .val (.slice none 0 0), .ro false n xs]
theorem item1_fn (B : Nat) (hB : B ≠ 0) : SpK GN Tryz.prog 80 [ptr B, .val (.int .i64 1)] [parsB B ⟨#[49, 93]⟩ 1 false] (IsM (.agg (uintA 0 1)) (parsB B ⟨#[93]⟩ 2 false)) := by
 have p1 : PreN ⟨#[49, 93]⟩ ⟨#[104, 39]⟩ := by decide +kernel
 have p2 : PreN ⟨#[49, 93]⟩ ⟨#[34]⟩ := by decide +kernel
 have p3 : PreN ⟨#[49, 93]⟩ ⟨#[91]⟩ := by decide +kernel
 have p4 : PreN ⟨#[49, 93]⟩ ⟨#[123]⟩ := by decide +kernel
 have p5 : PreN ⟨#[49, 93]⟩ ⟨#[115, 105, 109, 112, 108, 101, 40]⟩ := by decide +kernel
 have p6 : PreN ⟨#[49, 93]⟩ ⟨#[102, 108, 111, 97, 116, 39]⟩ := by decide +kernel
 have p7 : PreN ⟨#[49, 93]⟩ ⟨#[45]⟩ := by decide +kernel
 have p8 : PreN ⟨#[49, 93]⟩ ⟨#[102, 97, 108, 115, 101]⟩ := by decide +kernel
 have p9 : PreN ⟨#[49, 93]⟩ ⟨#[116, 114, 117, 101]⟩ := by decide +kernel
 have pa : PreN ⟨#[49, 93]⟩ ⟨#[110, 117, 108, 108]⟩ := by decide +kernel
 have pb : PreN ⟨#[49, 93]⟩ ⟨#[117, 110, 100, 101, 102, 105, 110, 101, 100]⟩ := by decide +kernel
 have pc : PreN ⟨#[93]⟩ ⟨#[40]⟩ := by decide +kernel
 refine SpK.enter Tryz.func80 rfl _ Tryz.ntmps80 rfl (fun w0 R0 hK => ?_)
 refine AW.seq ?_
 refine AW.region ?_
 refine AO.opB (O.alloc rfl (by (dsimp only [zerosA, List.replicate, List.append, List.flatten, AV.cells, Value.cells, List.toList_toArray, List.map]; done)) (by rfl)) rfl rfl rfl ?_
 intro B1
 refine AO.nil ?_
 refine AQ.thenN ?_
 refine AW.seq ?_
 refine AW.region ?_
 refine AO.op (O.move rfl rfl) rfl rfl rfl ?_
 refine AO.op (O.nilCheck rfl rfl) rfl rfl rfl ?_
 refine AO.op (O.fieldAddr rfl rfl) rfl rfl rfl ?_
 refine AO.op (O.load rfl rfl (by repeat (first | exact List.Mem.head _ | refine List.Mem.tail _ ?_)) (by rfl)) rfl rfl rfl ?_
 refine AO.op (O.add rfl rfl rfl (by exact wI64 (by omega))) rfl rfl rfl ?_
 refine AO.op (O.nilCheck rfl rfl) rfl rfl rfl ?_
 refine AO.op (O.fieldAddr rfl rfl) rfl rfl rfl ?_
 (refine AO.store (i := 1) rfl rfl rfl rfl rfl rfl (by rfl) (by rfl) (by rfl) (by (dsimp only [List.set, List.cons_append, List.nil_append, List.take, List.drop]; done)) (by (dsimp only [List.set, List.cons_append, List.nil_append, List.take, List.drop]; done)) ?_)
 refine AO.nil ?_
 refine AQ.thenN ?_
 refine AW.seq ?_
 refine AW.seq ?_
 refine AW.region ?_
 refine AO.op (O.move rfl rfl) rfl rfl rfl ?_
 refine AO.op (O.nilCheck rfl rfl) rfl rfl rfl ?_
 refine AO.op (O.fieldAddr rfl rfl) rfl rfl rfl ?_
 refine AO.op (O.load rfl rfl (by repeat (first | exact List.Mem.head _ | refine List.Mem.tail _ ?_)) (by rfl)) rfl rfl rfl ?_
 refine AO.op (O.move rfl rfl) rfl rfl rfl ?_
 refine AO.opG rfl rfl rfl (fun hp => O.move rfl rfl) ?_
 refine AO.opG rfl rfl rfl (fun hp => OpW.force 26 rfl (by exact hp) (O.nilCheck rfl rfl)) ?_
 refine AO.opG rfl rfl rfl (fun hp => OpW.force 27 rfl (by exact hp) (O.fieldAddr rfl rfl)) ?_
 refine AO.opG rfl rfl rfl (fun hp => OpW.force 28 rfl (by exact hp) (O.load rfl rfl (by repeat (first | exact List.Mem.head _ | refine List.Mem.tail _ ?_)) (by rfl))) ?_
 refine AO.opG rfl rfl rfl (fun hp => OpW.force 29 rfl (by exact hp) (O.gtr rfl rfl rfl (by exact bFalse (by omega)))) ?_
 refine AO.op (O.pickOr rfl rfl rfl rfl (fun h => by exact congrArg (fun b => !b) h)) rfl rfl rfl ?_
 refine AO.op (O.move rfl rfl) rfl rfl rfl ?_
 refine AO.opG rfl rfl rfl (fun hp => O.move rfl rfl) ?_
 refine AO.opG rfl rfl rfl (fun hp => OpW.force 33 rfl (by exact hp) (O.gtr rfl rfl rfl (by exact bFalse (by omega)))) ?_
 refine AO.op (O.pickOr rfl rfl rfl rfl (fun h => by exact congrArg (fun b => !b) h)) rfl rfl rfl ?_
 refine AO.nil ?_
 refine AQ.thenN ?_
 refine AW.condF rfl ?_
 refine AW.skip ?_
 refine AQ.thenN ?_
 refine AW.seq ?_
 refine AW.block ?_
 refine AW.seq ?_
 refine AW.region ?_
 refine AO.op (O.move rfl rfl) rfl rfl rfl ?_
 (refine AO.callM1 (i := 1) rfl rfl Tryz.func99 rfl rfl rfl rfl rfl rfl (skip_no ‹_›) (by (dsimp only [List.set, List.cons_append, List.nil_append, List.take, List.drop]; done)) ?_)
 refine AO.op (O.assign rfl rfl) rfl rfl rfl ?_
 refine AO.nil ?_
 refine AQ.thenN ?_
 refine AW.condF rfl ?_
 refine AW.seq ?_
 refine AW.region ?_
 refine AO.op (O.move rfl rfl) rfl rfl rfl ?_
 (refine AO.callM1 (i := 1) rfl rfl Tryz.func99 rfl rfl rfl rfl rfl rfl (skip_no ‹_›) (by (dsimp only [List.set, List.cons_append, List.nil_append, List.take, List.drop]; done)) ?_)
 refine AO.op (O.assign rfl rfl) rfl rfl rfl ?_
 refine AO.nil ?_
 refine AQ.thenN ?_
 refine AW.condF rfl ?_
 refine AW.seq ?_
 refine AW.region ?_
 refine AO.op (O.move rfl rfl) rfl rfl rfl ?_
 (refine AO.callM1 (i := 1) rfl rfl Tryz.func99 rfl rfl rfl rfl rfl rfl (skip_no ‹_›) (by (dsimp only [List.set, List.cons_append, List.nil_append, List.take, List.drop]; done)) ?_)
 refine AO.op (O.assign rfl rfl) rfl rfl rfl ?_
 refine AO.nil ?_
 refine AQ.thenN ?_
 refine AW.condF rfl ?_
 refine AW.seq ?_
 refine AW.region ?_
 refine AO.op (O.move rfl rfl) rfl rfl rfl ?_
 (refine AO.callM1 (i := 1) rfl rfl Tryz.func99 rfl rfl rfl rfl rfl rfl (skip_no ‹_›) (by (dsimp only [List.set, List.cons_append, List.nil_append, List.take, List.drop]; done)) ?_)
 refine AO.op (O.assign rfl rfl) rfl rfl rfl ?_
 refine AO.nil ?_
 refine AQ.thenN ?_
 refine AW.condF rfl ?_
 refine AW.seq ?_
 refine AW.region ?_
 refine AO.op (O.move rfl rfl) rfl rfl rfl ?_
 (refine AO.callM1 (i := 1) rfl rfl Tryz.func99 rfl rfl rfl rfl rfl rfl (skip_no ‹_›) (by (dsimp only [List.set, List.cons_append, List.nil_append, List.take, List.drop]; done)) ?_)
 refine AO.op (O.assign rfl rfl) rfl rfl rfl ?_
 refine AO.nil ?_
 refine AQ.thenN ?_
 refine AW.condF rfl ?_
 refine AW.seq ?_
 refine AW.region ?_
 refine AO.op (O.move rfl rfl) rfl rfl rfl ?_
 (refine AO.callM1 (i := 1) rfl rfl Tryz.func99 rfl rfl rfl rfl rfl rfl (skip_no ‹_›) (by (dsimp only [List.set, List.cons_append, List.nil_append, List.take, List.drop]; done)) ?_)
 refine AO.op (O.assign rfl rfl) rfl rfl rfl ?_
 refine AO.nil ?_
 refine AQ.thenN ?_
 refine AW.condF rfl ?_
 refine AW.seq ?_
 refine AW.region ?_
 refine AO.op (O.move rfl rfl) rfl rfl rfl ?_
 (refine AO.callM1 (i := 1) rfl rfl Tryz.func99 rfl rfl rfl rfl rfl rfl (skip_no ‹_›) (by (dsimp only [List.set, List.cons_append, List.nil_append, List.take, List.drop]; done)) ?_)
 refine AO.op (O.assign rfl rfl) rfl rfl rfl ?_
 refine AO.nil ?_
 refine AQ.thenN ?_
 refine AW.condF rfl ?_
 refine AW.skip ?_
 refine AQ.blockN ?_
 refine AQ.thenN ?_
 refine AW.seq ?_
 refine AW.seq ?_
 refine AW.region ?_
 refine AO.loadG hK (notFoot_blk hB) rfl rfl rfl rfl rfl ?_
 refine AO.op (O.move rfl rfl) rfl rfl rfl ?_
 refine AO.nil ?_
 refine AQ.thenN ?_
 refine AW.block ?_
 refine AW.loopK [(0, _), (1, _), (4, _), (127, _)] (fun nn E H => ∃ (k : Nat), (k ≤ 4) ∧ nn = 4 - k ∧ E = [(128, .val (.int .i64 (k : Int)))] ∧ H = [.blk B1 100 4 [.val (.int .i64 0), .val (.int .u64 0), .val (.slice none 0 0), .val (.slice none 0 0)], parsB B ⟨#[49, 93]⟩ 2 false]) _ (⟨0, by omega, rfl, rfl, rfl⟩) (by repeat (first | exact envNil | refine envCons rfl ?_)) (by repeat (first | exact envNil | refine envCons rfl ?_)) (by repeat (first | exact subPnil | refine subPcons 0 rfl ?_)) ?_
 rintro nn E H ⟨k, hk, rfl, rfl, rfl⟩
 dsimp only [List.cons_append, List.nil_append]
 obtain rfl | rfl | rfl | rfl | rfl : k = 0 ∨ k = 1 ∨ k = 2 ∨ k = 3 ∨ k = 4 := by omega
 ·skip
  refine AW.seq ?_
  refine AW.region ?_
  refine AO.op (O.lss rfl rfl rfl (by exact bTrue (by omega))) rfl rfl rfl ?_
  refine AO.nil ?_
  refine AQ.thenN ?_
  refine AW.seq ?_
  refine AW.condT rfl ?_
  refine AW.skip ?_
  refine AQ.thenN ?_
  refine AW.seq ?_
  refine AW.block ?_
  refine AW.seq ?_
  refine AW.region ?_
  refine AO.op (O.move rfl rfl) rfl rfl rfl ?_
  refine AO.op (O.index1 rfl rfl rfl ⟨(by omega), (by omega)⟩ (by rfl)) rfl rfl rfl ?_
  refine AO.op (O.assign rfl rfl) rfl rfl rfl ?_
  refine AO.op (O.assign rfl rfl) rfl rfl rfl ?_
  refine AO.nil ?_
  refine AQ.thenN ?_
  refine AW.seq ?_
  refine AW.region ?_
  refine AO.op (O.move rfl rfl) rfl rfl rfl ?_
  refine AO.op (O.move rfl rfl) rfl rfl rfl ?_
  (refine AO.callM1 (i := 1) rfl rfl Tryz.func99 rfl rfl rfl rfl rfl rfl (skip_no ‹_›) (by (dsimp only [List.set, List.cons_append, List.nil_append, List.take, List.drop]; done)) ?_)
  refine AO.nil ?_
  refine AQ.thenN ?_
  refine AW.condF rfl ?_
  refine AW.skip ?_
  refine AQ.blockN ?_
  refine AQ.thenN ?_
  refine AW.region ?_
  refine AO.op (O.add rfl rfl rfl (by exact wI64 (by omega))) rfl rfl rfl ?_
  refine AO.op (O.move rfl rfl) rfl rfl rfl ?_
  refine AO.nil ?_
  refine AQ.loopKN _ _ _ (by omega) (⟨1, by omega, rfl, rfl, rfl⟩) (by repeat (first | exact envNil | refine envCons rfl ?_)) (by repeat (first | exact envNil | refine envCons rfl ?_)) (by repeat (first | exact subPnil | refine subPcons 0 rfl ?_))
 ·skip
  refine AW.seq ?_
  refine AW.region ?_
  refine AO.op (O.lss rfl rfl rfl (by exact bTrue (by omega))) rfl rfl rfl ?_
  refine AO.nil ?_
  refine AQ.thenN ?_
  refine AW.seq ?_
  refine AW.condT rfl ?_
  refine AW.skip ?_
  refine AQ.thenN ?_
  refine AW.seq ?_
  refine AW.block ?_
  refine AW.seq ?_
  refine AW.region ?_
  refine AO.op (O.move rfl rfl) rfl rfl rfl ?_
  refine AO.op (O.index1 rfl rfl rfl ⟨(by omega), (by omega)⟩ (by rfl)) rfl rfl rfl ?_
  refine AO.op (O.assign rfl rfl) rfl rfl rfl ?_
  refine AO.op (O.assign rfl rfl) rfl rfl rfl ?_
  refine AO.nil ?_
  refine AQ.thenN ?_
  refine AW.seq ?_
  refine AW.region ?_
  refine AO.op (O.move rfl rfl) rfl rfl rfl ?_
  refine AO.op (O.move rfl rfl) rfl rfl rfl ?_
  (refine AO.callM1 (i := 1) rfl rfl Tryz.func99 rfl rfl rfl rfl rfl rfl (skip_no ‹_›) (by (dsimp only [List.set, List.cons_append, List.nil_append, List.take, List.drop]; done)) ?_)
  refine AO.nil ?_
  refine AQ.thenN ?_
  refine AW.condF rfl ?_
  refine AW.skip ?_
  refine AQ.blockN ?_
  refine AQ.thenN ?_
  refine AW.region ?_
  refine AO.op (O.add rfl rfl rfl (by exact wI64 (by omega))) rfl rfl rfl ?_
  refine AO.op (O.move rfl rfl) rfl rfl rfl ?_
  refine AO.nil ?_
  refine AQ.loopKN _ _ _ (by omega) (⟨2, by omega, rfl, rfl, rfl⟩) (by repeat (first | exact envNil | refine envCons rfl ?_)) (by repeat (first | exact envNil | refine envCons rfl ?_)) (by repeat (first | exact subPnil | refine subPcons 0 rfl ?_))
 ·skip
  refine AW.seq ?_
  refine AW.region ?_
  refine AO.op (O.lss rfl rfl rfl (by exact bTrue (by omega))) rfl rfl rfl ?_
  refine AO.nil ?_
  refine AQ.thenN ?_
  refine AW.seq ?_
  refine AW.condT rfl ?_
  refine AW.skip ?_
  refine AQ.thenN ?_
  refine AW.seq ?_
  refine AW.block ?_
  refine AW.seq ?_
  refine AW.region ?_
  refine AO.op (O.move rfl rfl) rfl rfl rfl ?_
  refine AO.op (O.index1 rfl rfl rfl ⟨(by omega), (by omega)⟩ (by rfl)) rfl rfl rfl ?_
  refine AO.op (O.assign rfl rfl) rfl rfl rfl ?_
  refine AO.op (O.assign rfl rfl) rfl rfl rfl ?_
  refine AO.nil ?_
  refine AQ.thenN ?_
  refine AW.seq ?_
  refine AW.region ?_
  refine AO.op (O.move rfl rfl) rfl rfl rfl ?_
  refine AO.op (O.move rfl rfl) rfl rfl rfl ?_
  (refine AO.callM1 (i := 1) rfl rfl Tryz.func99 rfl rfl rfl rfl rfl rfl (skip_no ‹_›) (by (dsimp only [List.set, List.cons_append, List.nil_append, List.take, List.drop]; done)) ?_)
  refine AO.nil ?_
  refine AQ.thenN ?_
  refine AW.condF rfl ?_
  refine AW.skip ?_
  refine AQ.blockN ?_
  refine AQ.thenN ?_
  refine AW.region ?_
  refine AO.op (O.add rfl rfl rfl (by exact wI64 (by omega))) rfl rfl rfl ?_
  refine AO.op (O.move rfl rfl) rfl rfl rfl ?_
  refine AO.nil ?_
  refine AQ.loopKN _ _ _ (by omega) (⟨3, by omega, rfl, rfl, rfl⟩) (by repeat (first | exact envNil | refine envCons rfl ?_)) (by repeat (first | exact envNil | refine envCons rfl ?_)) (by repeat (first | exact subPnil | refine subPcons 0 rfl ?_))
 ·skip
  refine AW.seq ?_
  refine AW.region ?_
  refine AO.op (O.lss rfl rfl rfl (by exact bTrue (by omega))) rfl rfl rfl ?_
  refine AO.nil ?_
  refine AQ.thenN ?_
  refine AW.seq ?_
  refine AW.condT rfl ?_
  refine AW.skip ?_
  refine AQ.thenN ?_
  refine AW.seq ?_
  refine AW.block ?_
  refine AW.seq ?_
  refine AW.region ?_
  refine AO.op (O.move rfl rfl) rfl rfl rfl ?_
  refine AO.op (O.index1 rfl rfl rfl ⟨(by omega), (by omega)⟩ (by rfl)) rfl rfl rfl ?_
  refine AO.op (O.assign rfl rfl) rfl rfl rfl ?_
  refine AO.op (O.assign rfl rfl) rfl rfl rfl ?_
  refine AO.nil ?_
  refine AQ.thenN ?_
  refine AW.seq ?_
  refine AW.region ?_
  refine AO.op (O.move rfl rfl) rfl rfl rfl ?_
  refine AO.op (O.move rfl rfl) rfl rfl rfl ?_
  (refine AO.callM1 (i := 1) rfl rfl Tryz.func99 rfl rfl rfl rfl rfl rfl (skip_no ‹_›) (by (dsimp only [List.set, List.cons_append, List.nil_append, List.take, List.drop]; done)) ?_)
  refine AO.nil ?_
  refine AQ.thenN ?_
  refine AW.condF rfl ?_
  refine AW.skip ?_
  refine AQ.blockN ?_
  refine AQ.thenN ?_
  refine AW.region ?_
  refine AO.op (O.add rfl rfl rfl (by exact wI64 (by omega))) rfl rfl rfl ?_
  refine AO.op (O.move rfl rfl) rfl rfl rfl ?_
  refine AO.nil ?_
  refine AQ.loopKN _ _ _ (by omega) (⟨4, by omega, rfl, rfl, rfl⟩) (by repeat (first | exact envNil | refine envCons rfl ?_)) (by repeat (first | exact envNil | refine envCons rfl ?_)) (by repeat (first | exact subPnil | refine subPcons 0 rfl ?_))
 ·skip
  refine AW.seq ?_
  refine AW.region ?_
  refine AO.op (O.lss rfl rfl rfl (by exact bFalse (by omega))) rfl rfl rfl ?_
  refine AO.nil ?_
  refine AQ.thenN ?_
  refine AW.seq ?_
  refine AW.condF rfl ?_
  refine AW.exit ?_
  refine AQ.thenX ?_
  refine AQ.loopX ?_
  refine AQ.blockX rfl ?_
  refine AQ.thenN ?_
  refine AW.seq ?_
  refine AW.region ?_
  refine AO.op (O.move rfl rfl) rfl rfl rfl ?_
  (refine AO.callM1 (i := 1) rfl rfl Tryz.func103 rfl rfl rfl rfl rfl rfl (number_fn B) (by (dsimp only [List.set, List.cons_append, List.nil_append, List.take, List.drop]; done)) ?_)
  refine AO.op (O.assign rfl rfl) rfl rfl rfl ?_
  refine AO.nil ?_
  refine AQ.thenN ?_
  refine AW.seq ?_
  refine AW.seq ?_
  refine AW.region ?_
  refine AO.op (O.move rfl rfl) rfl rfl rfl ?_
  (refine AO.callM1 (i := 1) rfl rfl Tryz.func99 rfl rfl rfl rfl rfl rfl (skip_no ‹_›) (by (dsimp only [List.set, List.cons_append, List.nil_append, List.take, List.drop]; done)) ?_)
  refine AO.op (O.not rfl rfl (by rfl)) rfl rfl rfl ?_
  refine AO.nil ?_
  refine AQ.thenN ?_
  refine AW.condT rfl ?_
  refine AW.seq ?_
  refine AW.region ?_
  refine AO.op (O.move rfl rfl) rfl rfl rfl ?_
  refine AO.op (O.build rfl rfl rfl (by rfl)) rfl rfl rfl ?_
  (refine AO.store (i := 0) rfl rfl rfl rfl rfl rfl (by rfl) (by rfl) (by rfl) (by (dsimp only [List.set, List.cons_append, List.nil_append, List.take, List.drop]; done)) (by (dsimp only [List.set, List.cons_append, List.nil_append, List.take, List.drop]; done)) ?_)
  refine AO.nil ?_
  refine AQ.thenN ?_
  refine AW.ret ?_
  refine AQ.thenR ?_
  refine AQ.retCell rfl rfl (by repeat (exact List.Mem.head _)) (by rfl) rfl ⟨_, by repeat (first | exact List.Sublist.slnil | refine List.Sublist.cons_cons _ ?_ | refine List.Sublist.cons _ ?_), List.Perm.refl _⟩ (⟨rfl, rfl⟩)
 skip
end Go.Proofs.YtoonnnifelnaiaaGreatDoor.By

namespace Go.Proofs.YtoonnnifelnaiaaGreatDoor.By
open Go.RowKit L A Dk
set_option linter.unusedVariables false
set_option maxRecDepth 20000
set_option linter.unusedSimpArgs false
attribute [local irreducible] AW AQ AO
theorem list1_fn (B : Nat) (hB : B ≠ 0) : SpK GN Tryz.prog 102 [ptr B, .val (.string ⟨#[93]⟩), .val (.bool false), .val (.int .i64 1)] [parsB B ⟨#[49, 93]⟩ 1 false] (IsM (.ro false 1 (uintA 0 1)) (parsB B ⟨#[]⟩ 2 false)) := by
 have p1 : PreN ⟨#[49, 93]⟩ ⟨#[93]⟩ := by decide +kernel
 have p2 : PreY ⟨#[93]⟩ ⟨#[93]⟩ ⟨#[]⟩ := by decide +kernel
 refine SpK.enter Tryz.func102 rfl _ Tryz.ntmps102 rfl (fun w0 R0 hK => ?_)
 refine AW.seq ?_
 refine AW.region ?_
 refine AO.op (O.assign rfl rfl) rfl rfl rfl ?_
 refine AO.nil ?_
 refine AQ.thenN ?_
 refine AW.seq ?_
 refine AW.region ?_
 refine AO.op (O.assign rfl rfl) rfl rfl rfl ?_
 refine AO.nil ?_
 refine AQ.thenN ?_
 refine AW.seq ?_
 refine AW.block ?_
 refine AW.g ?_
 refine G.nilRow 100 4 ?_
 refine AW.u ?_
 refine AW.loopK [(0, _), (1, _), (2, _), (3, _)] (fun nn E H => ∃ (V : Value) (s : ByteArray) (q : Int) (n : Nat) (xs : List AV), (V.oneCell' = true) ∧ ((s = ⟨#[49, 93]⟩ ∧ q = 1 ∧ n = 0 ∧ xs = []) ∨ (s = ⟨#[93]⟩ ∧ q = 2 ∧ n = 1 ∧ xs = uintA 0 1)) ∧ nn = 1 - n ∧ E = [(9, .val V)] ∧ H = [.row V 100 4 n xs, parsB B s q false]) _ (⟨_, _, _, _, _, rfl, .inl ⟨rfl, rfl, rfl, rfl⟩, rfl, rfl, rfl⟩) (by repeat (first | exact envNil | refine envCons rfl ?_)) (by repeat (first | exact envNil | refine envCons rfl ?_)) (by repeat (first | exact subPnil | refine subPcons 0 rfl ?_)) ?_
 rintro nn E H ⟨V, s, q, n, xs, hV, hc, rfl, rfl, rfl⟩
 dsimp only [List.cons_append, List.nil_append]
 obtain ⟨rfl, rfl, rfl, rfl⟩ | ⟨rfl, rfl, rfl, rfl⟩ := hc
 ·skip
  refine AW.seq ?_
  refine AW.seq ?_
  refine AW.region ?_
  refine AO.op (O.move rfl rfl) rfl rfl rfl ?_
  refine AO.op (O.nilCheck rfl rfl) rfl rfl rfl ?_
  refine AO.op (O.fieldAddr rfl rfl) rfl rfl rfl ?_
  refine AO.op (O.load rfl rfl (by repeat (first | exact List.Mem.head _ | refine List.Mem.tail _ ?_)) (by rfl)) rfl rfl rfl ?_
  refine AO.op (O.not rfl rfl (by rfl)) rfl rfl rfl ?_
  refine AO.op (O.move rfl rfl) rfl rfl rfl ?_
  refine AO.op (O.move rfl rfl) rfl rfl rfl ?_
  refine AO.op (O.move rfl rfl) rfl rfl rfl ?_
  (refine AO.callM1w (i := 1) rfl rfl Tryz.func99 rfl rfl rfl rfl rfl rfl (skip_no ‹_›) (by (dsimp only [List.set, List.cons_append, List.nil_append, List.take, List.drop]; done)) ?_)
  refine AO.op (O.not rfl rfl (by rfl)) rfl rfl rfl ?_
  refine AO.op (O.pickT rfl rfl rfl) rfl rfl rfl ?_
  refine AO.nil ?_
  refine AQ.thenN ?_
  refine AW.condT rfl ?_
  refine AW.skip ?_
  refine AQ.thenN ?_
  refine AW.block ?_
  refine AW.seq ?_
  refine AW.seq ?_
  refine AW.region ?_
  refine AO.op (O.move rfl rfl) rfl rfl rfl ?_
  refine AO.op (O.lenRow rfl rfl (by repeat (exact List.Mem.head _))) rfl rfl rfl ?_
  refine AO.op (O.gtr rfl rfl rfl (by exact bFalse (by omega))) rfl rfl rfl ?_
  refine AO.nil ?_
  refine AQ.thenN ?_
  refine AW.condF rfl ?_
  refine AW.skip ?_
  refine AQ.thenN ?_
  refine AW.seq ?_
  refine AW.region ?_
  refine AO.op (O.move rfl rfl) rfl rfl rfl ?_
  refine AO.op (O.move rfl rfl) rfl rfl rfl ?_
  refine AO.op (O.move rfl rfl) rfl rfl rfl ?_
  (refine AO.callK1 (i := 1) hK (notFoot_blk hB) rfl rfl Tryz.func80 rfl rfl rfl rfl rfl rfl (item1_fn B hB) (by (dsimp only [List.set, List.cons_append, List.nil_append, List.take, List.drop]; done)) ?_)
  refine AO.opB (O.buildSlice rfl rfl rfl (by rfl) (by rfl) (by rfl) (by rfl)) rfl rfl rfl ?_
  intro B1
  refine AO.g ?_
  (refine G.freezeSl 0 30 rfl rfl ⟨Nat.le_refl _, by unfold maxLen; omega⟩ ?_)
  refine G.unfull 30 rfl ?_
  refine AO.u ?_
  dsimp only [List.eraseIdx]
  (refine AO.append' (i := 0) rfl rfl rfl rfl (by rfl) (by rfl) rfl rfl rfl (by exact SrcA.ro TyD.ax (by rfl) (Nat.le_of_ble_eq_true rfl)) (by rfl) (by (unfold maxLen; omega)) (by omega) (by (dsimp only [List.set, List.cons_append, List.nil_append, List.take, List.drop]; done)) (fun _ => by (dsimp only [List.set]; done)) ?_)
  intro V2 hV2
  refine AO.op (O.assign rfl rfl) rfl rfl rfl ?_
  refine AO.nil ?_
  refine AQ.thenN ?_
  refine AW.seq ?_
  refine AW.region ?_
  refine AO.op (O.move rfl rfl) rfl rfl rfl ?_
  refine AO.nil ?_
  refine AQ.thenN ?_
  refine AW.condF rfl ?_
  refine AW.skip ?_
  refine AQ.blockN ?_
  refine AQ.loopKN _ _ _ (by omega) (⟨_, _, _, _, _, ‹_›, .inr ⟨rfl, rfl, rfl, rfl⟩, rfl, rfl, rfl⟩) (by repeat (first | exact envNil | refine envCons rfl ?_)) (by repeat (first | exact envNil | refine envCons rfl ?_)) (by repeat (first | exact subPnil | refine subPcons 0 rfl ?_))
 ·skip
  refine AW.seq ?_
  refine AW.seq ?_
  refine AW.region ?_
  refine AO.op (O.move rfl rfl) rfl rfl rfl ?_
  refine AO.op (O.nilCheck rfl rfl) rfl rfl rfl ?_
  refine AO.op (O.fieldAddr rfl rfl) rfl rfl rfl ?_
  refine AO.op (O.load rfl rfl (by repeat (first | exact List.Mem.head _ | refine List.Mem.tail _ ?_)) (by rfl)) rfl rfl rfl ?_
  refine AO.op (O.not rfl rfl (by rfl)) rfl rfl rfl ?_
  refine AO.op (O.move rfl rfl) rfl rfl rfl ?_
  refine AO.op (O.move rfl rfl) rfl rfl rfl ?_
  refine AO.op (O.move rfl rfl) rfl rfl rfl ?_
  (refine AO.callM1w (i := 1) rfl rfl Tryz.func99 rfl rfl rfl rfl rfl rfl (skip_yes ⟨#[]⟩ ‹_›) (by (dsimp only [List.set, List.cons_append, List.nil_append, List.take, List.drop]; done)) ?_)
  refine AO.op (O.not rfl rfl (by rfl)) rfl rfl rfl ?_
  refine AO.op (O.pickT rfl rfl rfl) rfl rfl rfl ?_
  refine AO.nil ?_
  refine AQ.thenN ?_
  refine AW.condF rfl ?_
  refine AW.g ?_
  (refine G.freezeRow 0 rfl [9] (by (repeat (first | exact frNil | refine frCons rfl ?_)); done) ?_)
  refine AW.u ?_
  try dsimp only [List.map, List.eraseIdx, List.cons_append, List.nil_append]
  refine AW.exit ?_
  refine AQ.thenX ?_
  refine AQ.loopX ?_
  refine AQ.blockX rfl ?_
  refine AQ.thenN ?_
  refine AW.seq ?_
  refine AW.region ?_
  refine AO.op (O.move rfl rfl) rfl rfl rfl ?_
  refine AO.op (O.assign rfl rfl) rfl rfl rfl ?_
  refine AO.nil ?_
  refine AQ.thenN ?_
  refine AW.ret ?_
  refine AQ.ret1 rfl rfl ⟨_, by repeat (first | exact List.Sublist.slnil | refine List.Sublist.cons_cons _ ?_), List.Perm.refl _⟩ (⟨rfl, rfl⟩)
 skip
theorem item0_fn (B : Nat) (hB : B ≠ 0) : SpK GN Tryz.prog 80 [ptr B, .val (.int .i64 0)] [parsB B ⟨#[91, 49, 93]⟩ 0 false] (IsM (.agg (arrA 1 (uintA 0 1))) (parsB B ⟨#[]⟩ 2 false)) := by
 have p1 : PreN ⟨#[91, 49, 93]⟩ ⟨#[104, 39]⟩ := by decide +kernel
 have p2 : PreN ⟨#[91, 49, 93]⟩ ⟨#[34]⟩ := by decide +kernel
 have p3 : PreY ⟨#[91, 49, 93]⟩ ⟨#[91]⟩ ⟨#[49, 93]⟩ := by decide +kernel
 refine SpK.enter Tryz.func80 rfl _ Tryz.ntmps80 rfl (fun w0 R0 hK => ?_)
 refine AW.seq ?_
 refine AW.region ?_
 refine AO.opB (O.alloc rfl (by (dsimp only [zerosA, List.replicate, List.append, List.flatten, AV.cells, Value.cells, List.toList_toArray, List.map]; done)) (by rfl)) rfl rfl rfl ?_
 intro B1
 refine AO.nil ?_
 refine AQ.thenN ?_
 refine AW.seq ?_
 refine AW.region ?_
 refine AO.op (O.move rfl rfl) rfl rfl rfl ?_
 refine AO.op (O.nilCheck rfl rfl) rfl rfl rfl ?_
 refine AO.op (O.fieldAddr rfl rfl) rfl rfl rfl ?_
 refine AO.op (O.load rfl rfl (by repeat (first | exact List.Mem.head _ | refine List.Mem.tail _ ?_)) (by rfl)) rfl rfl rfl ?_
 refine AO.op (O.add rfl rfl rfl (by exact wI64 (by omega))) rfl rfl rfl ?_
 refine AO.op (O.nilCheck rfl rfl) rfl rfl rfl ?_
 refine AO.op (O.fieldAddr rfl rfl) rfl rfl rfl ?_
 (refine AO.store (i := 1) rfl rfl rfl rfl rfl rfl (by rfl) (by rfl) (by rfl) (by (dsimp only [List.set, List.cons_append, List.nil_append, List.take, List.drop]; done)) (by (dsimp only [List.set, List.cons_append, List.nil_append, List.take, List.drop]; done)) ?_)
 refine AO.nil ?_
 refine AQ.thenN ?_
 refine AW.seq ?_
 refine AW.seq ?_
 refine AW.region ?_
 refine AO.op (O.move rfl rfl) rfl rfl rfl ?_
 refine AO.op (O.nilCheck rfl rfl) rfl rfl rfl ?_
 refine AO.op (O.fieldAddr rfl rfl) rfl rfl rfl ?_
 refine AO.op (O.load rfl rfl (by repeat (first | exact List.Mem.head _ | refine List.Mem.tail _ ?_)) (by rfl)) rfl rfl rfl ?_
 refine AO.op (O.move rfl rfl) rfl rfl rfl ?_
 refine AO.op (O.move rfl rfl) rfl rfl rfl ?_
 refine AO.op (O.nilCheck rfl rfl) rfl rfl rfl ?_
 refine AO.op (O.fieldAddr rfl rfl) rfl rfl rfl ?_
 refine AO.op (O.load rfl rfl (by repeat (first | exact List.Mem.head _ | refine List.Mem.tail _ ?_)) (by rfl)) rfl rfl rfl ?_
 refine AO.op (O.gtr rfl rfl rfl (by exact bFalse (by omega))) rfl rfl rfl ?_
 refine AO.op (O.pickF rfl rfl rfl) rfl rfl rfl ?_
 refine AO.op (O.move rfl rfl) rfl rfl rfl ?_
 refine AO.op (O.move rfl rfl) rfl rfl rfl ?_
 refine AO.op (O.gtr rfl rfl rfl (by exact bFalse (by omega))) rfl rfl rfl ?_
 refine AO.op (O.pickF rfl rfl rfl) rfl rfl rfl ?_
 refine AO.nil ?_
 refine AQ.thenN ?_
 refine AW.condF rfl ?_
 refine AW.skip ?_
 refine AQ.thenN ?_
 refine AW.seq ?_
 refine AW.block ?_
 refine AW.seq ?_
 refine AW.region ?_
 refine AO.op (O.move rfl rfl) rfl rfl rfl ?_
 (refine AO.callM1 (i := 1) rfl rfl Tryz.func99 rfl rfl rfl rfl rfl rfl (skip_no ‹_›) (by (dsimp only [List.set, List.cons_append, List.nil_append, List.take, List.drop]; done)) ?_)
 refine AO.op (O.assign rfl rfl) rfl rfl rfl ?_
 refine AO.nil ?_
 refine AQ.thenN ?_
 refine AW.condF rfl ?_
 refine AW.seq ?_
 refine AW.region ?_
 refine AO.op (O.move rfl rfl) rfl rfl rfl ?_
 (refine AO.callM1 (i := 1) rfl rfl Tryz.func99 rfl rfl rfl rfl rfl rfl (skip_no ‹_›) (by (dsimp only [List.set, List.cons_append, List.nil_append, List.take, List.drop]; done)) ?_)
 refine AO.op (O.assign rfl rfl) rfl rfl rfl ?_
 refine AO.nil ?_
 refine AQ.thenN ?_
 refine AW.condF rfl ?_
 refine AW.seq ?_
 refine AW.region ?_
 refine AO.op (O.move rfl rfl) rfl rfl rfl ?_
 (refine AO.callM1 (i := 1) rfl rfl Tryz.func99 rfl rfl rfl rfl rfl rfl (skip_yes ⟨#[49, 93]⟩ ‹_›) (by (dsimp only [List.set, List.cons_append, List.nil_append, List.take, List.drop]; done)) ?_)
 refine AO.op (O.assign rfl rfl) rfl rfl rfl ?_
 refine AO.nil ?_
 refine AQ.thenN ?_
 refine AW.condT rfl ?_
 refine AW.seq ?_
 refine AW.region ?_
 refine AO.op (O.move rfl rfl) rfl rfl rfl ?_
 refine AO.op (O.move rfl rfl) rfl rfl rfl ?_
 refine AO.op (O.add rfl rfl rfl (by exact wI64 (by omega))) rfl rfl rfl ?_
 (refine AO.callK1 (i := 1) hK (notFoot_blk hB) rfl rfl Tryz.func102 rfl rfl rfl rfl rfl rfl (list1_fn B hB) (by (dsimp only [List.set, List.cons_append, List.nil_append, List.take, List.drop]; done)) ?_)
 refine AO.op (O.build rfl rfl rfl (by rfl)) rfl rfl rfl ?_
 (refine AO.store (i := 0) rfl rfl rfl rfl rfl rfl (by rfl) (by rfl) (by rfl) (by (dsimp only [List.set, List.cons_append, List.nil_append, List.take, List.drop]; done)) (by (dsimp only [List.set, List.cons_append, List.nil_append, List.take, List.drop]; done)) ?_)
 refine AO.nil ?_
 refine AQ.thenN ?_
 refine AW.ret ?_
 refine AQ.blockR ?_
 refine AQ.thenR ?_
 refine AQ.retCell rfl rfl (by repeat (exact List.Mem.head _)) (by rfl) rfl ⟨_, by repeat (first | exact List.Sublist.slnil | refine List.Sublist.cons_cons _ ?_ | refine List.Sublist.cons _ ?_), List.Perm.refl _⟩ (⟨rfl, rfl⟩)
/-! ### Texts written -/
abbrev itA (k n : Int) (b : List UInt8) (m : Nat) (xs : List AV) : AV := .agg [.val (.int .i64 k), .val (.int .u64 n), roB b, .ro false m xs]
theorem put1_fn (V : Value) (l : List UInt8) (hl : l.length ≤ 1000) : Sp Tryz.prog 78 [.val V, itA 0 1 [] 0 []] [.row V 5 1 l.length (bytesA l)] (RowB 5 (l ++ [49])) := by
 refine Sp.enter Tryz.func78 rfl _ Tryz.ntmps78 rfl (fun w0 R0 => ?_)
 refine AW.seq ?_
 refine AW.region ?_
 refine AO.opB (O.box rfl rfl rfl rfl rfl) rfl rfl rfl ?_
 intro B1
 refine AO.op (O.assign rfl rfl) rfl rfl rfl ?_
 refine AO.nil ?_
 refine AQ.thenN ?_
 refine AW.seq ?_
 refine AW.seq ?_
 refine AW.region ?_
 refine AO.op (O.fieldAddr rfl rfl) rfl rfl rfl ?_
 refine AO.op (O.load rfl rfl (by repeat (exact List.Mem.head _)) (by rfl)) rfl rfl rfl ?_
 refine AO.nil ?_
 refine AQ.thenN ?_
 refine AW.block ?_
 refine AW.seq ?_
 refine AW.region ?_
 refine AO.op (O.eql rfl rfl rfl (by exact beq_iff_eq.2 (by omega))) rfl rfl rfl ?_
 refine AO.op (O.assign rfl rfl) rfl rfl rfl ?_
 refine AO.nil ?_
 refine AQ.thenN ?_
 refine AW.condT rfl ?_
 refine AW.seq ?_
 refine AW.region ?_
 refine AO.op (O.move rfl rfl) rfl rfl rfl ?_
 refine AO.op (O.fieldAddr rfl rfl) rfl rfl rfl ?_
 refine AO.op (O.load rfl rfl (by repeat (exact List.Mem.head _)) (by rfl)) rfl rfl rfl ?_
 refine AO.callMG 1 rfl rfl Tryz.func96 rfl rfl rfl rfl rfl rfl (app_fn V l 1 hl ⟨by omega, by omega⟩) ?_
 rintro _ _ ⟨V2, hV2, rfl, rfl⟩
 dsimp only [List.cons_append, List.nil_append, List.eraseIdx]
 refine AO.op (O.assign rfl rfl) rfl rfl rfl ?_
 refine AO.nil ?_
 refine AQ.thenN ?_
 refine AW.ret ?_
 refine AQ.blockR ?_
 refine AQ.thenR ?_
 refine AQ.ret1 rfl rfl ⟨_, by repeat (first | exact List.Sublist.slnil | refine List.Sublist.cons_cons _ ?_ | refine List.Sublist.cons _ ?_), List.Perm.refl _⟩ (retRB hV2 rfl rfl)
theorem putN_fn : Sp Tryz.prog 78 [.val (.slice none 0 0), itA 1 2 [] 0 []] [] (Is (roB [45, 51])) := by
 refine Sp.enter Tryz.func78 rfl _ Tryz.ntmps78 rfl (fun w0 R0 => ?_)
 refine AW.seq ?_
 refine AW.region ?_
 refine AO.opB (O.box rfl rfl rfl rfl rfl) rfl rfl rfl ?_
 intro B1
 refine AO.op (O.assign rfl rfl) rfl rfl rfl ?_
 refine AO.nil ?_
 refine AQ.thenN ?_
 refine AW.seq ?_
 refine AW.seq ?_
 refine AW.region ?_
 refine AO.op (O.fieldAddr rfl rfl) rfl rfl rfl ?_
 refine AO.op (O.load rfl rfl (by repeat (exact List.Mem.head _)) (by rfl)) rfl rfl rfl ?_
 refine AO.nil ?_
 refine AQ.thenN ?_
 refine AW.block ?_
 refine AW.seq ?_
 refine AW.region ?_
 refine AO.op (O.eql rfl rfl rfl (by exact beq_eq_false_iff_ne.2 (by omega))) rfl rfl rfl ?_
 refine AO.op (O.assign rfl rfl) rfl rfl rfl ?_
 refine AO.nil ?_
 refine AQ.thenN ?_
 refine AW.condF rfl ?_
 refine AW.seq ?_
 refine AW.region ?_
 refine AO.op (O.eql rfl rfl rfl (by exact beq_iff_eq.2 (by omega))) rfl rfl rfl ?_
 refine AO.op (O.assign rfl rfl) rfl rfl rfl ?_
 refine AO.nil ?_
 refine AQ.thenN ?_
 refine AW.condT rfl ?_
 refine AW.seq ?_
 refine AW.seq ?_
 refine AW.region ?_
 refine AO.op (O.fieldAddr rfl rfl) rfl rfl rfl ?_
 refine AO.op (O.load rfl rfl (by repeat (exact List.Mem.head _)) (by rfl)) rfl rfl rfl ?_
 refine AO.op (O.eql rfl rfl rfl (by exact beq_eq_false_iff_ne.2 (by omega))) rfl rfl rfl ?_
 refine AO.nil ?_
 refine AQ.thenN ?_
 refine AW.condF rfl ?_
 refine AW.g ?_
 refine G.nilRow 5 1 ?_
 refine AW.u ?_
 refine AW.skip ?_
 refine AQ.thenN ?_
 refine AW.seq ?_
 refine AW.regionM [(0, false), (1, false), (3, false), (4, false), (5, false), (2, true), (6, true), (7, false)] (by kernel_rfl) (by kernel_rfl) (by exact (by exact splitRow 0 0 rfl rfl splitNil)) ?_
 dsimp only [List.eraseIdx]
 refine AM.op rfl (O.move rfl rfl) rfl rfl rfl ?_
 refine AM.op rfl (OpW.frz (O.buildSlice rfl rfl rfl (by rfl) (by rfl) (by rfl) (by rfl)) (by (unfold maxLen; omega))) rfl rfl rfl ?_
 refine AM.op rfl (O.fieldAddr rfl rfl) rfl rfl rfl ?_
 refine AM.op rfl (O.load rfl rfl (by repeat (exact List.Mem.head _)) (by rfl)) rfl rfl rfl ?_
 refine AM.op rfl (O.add rfl rfl rfl (by exact wU64 (by omega))) rfl rfl rfl ?_
 refine AM.main _ rfl (fun w0 R0 => ?_)
 (refine AO.append' (i := 0) rfl rfl rfl rfl (by rfl) (by rfl) rfl rfl rfl (by exact SrcA.ro TyD.ax (by rfl) (Nat.le_of_ble_eq_true rfl)) (by rfl) (by (unfold maxLen; omega)) (by omega) (by (dsimp only [List.set, List.cons_append, List.nil_append, List.take, List.drop]; done)) (fun _ => by (dsimp only [List.set]; done)) ?_)
 intro V2 hV2
 refine AM.ok ?_
 dsimp only [putE]
 refine AM.main _ rfl (fun w0 R0 => ?_)
 refine AO.callMG 0 rfl rfl Tryz.func96 rfl rfl rfl rfl rfl rfl (app_fn _ [45] 3 (by decide) ⟨by omega, by omega⟩) ?_
 rintro _ _ ⟨V3, hV3, rfl, rfl⟩
 dsimp only [List.cons_append, List.nil_append, List.eraseIdx]
 refine AM.ok ?_
 dsimp only [putE]
 refine AM.op rfl (O.assign rfl rfl) rfl rfl rfl ?_
 refine AM.nil ?_
 dsimp only [List.cons_append, List.nil_append]
 refine AQ.thenN ?_
 refine AW.ret ?_
 refine AQ.blockR ?_
 refine AQ.thenR ?_
 refine AQ.g ?_
 (refine G.freezeRow 0 rfl [4] (by (repeat (first | exact frNil | refine frCons rfl ?_)); done) ?_)
 refine AQ.u ?_
 try dsimp only [List.map, List.eraseIdx, List.cons_append, List.nil_append]
 refine AQ.ret1 rfl rfl ⟨_, List.nil_sublist _, .nil⟩ (⟨rfl, rfl⟩)
abbrev uintR (n : Int) : List AV := [.val (.int .i64 0), .val (.int .u64 n), roB [], .ro false 0 []]
theorem putA_fn : Sp Tryz.prog 78 [.val (.slice none 0 0), itA 4 0 [] 1 (uintR 1)] [] (Is (roB [91, 49, 93])) := by
 refine Sp.enter Tryz.func78 rfl _ Tryz.ntmps78 rfl (fun w0 R0 => ?_)
 refine AW.seq ?_
 refine AW.region ?_
 refine AO.opB (O.box rfl rfl rfl rfl rfl) rfl rfl rfl ?_
 intro B1
 refine AO.op (O.assign rfl rfl) rfl rfl rfl ?_
 refine AO.nil ?_
 refine AQ.thenN ?_
 refine AW.seq ?_
 refine AW.seq ?_
 refine AW.region ?_
 refine AO.op (O.fieldAddr rfl rfl) rfl rfl rfl ?_
 refine AO.op (O.load rfl rfl (by repeat (exact List.Mem.head _)) (by rfl)) rfl rfl rfl ?_
 refine AO.nil ?_
 refine AQ.thenN ?_
 refine AW.block ?_
 refine AW.seq ?_
 refine AW.region ?_
 refine AO.op (O.eql rfl rfl rfl (by exact beq_eq_false_iff_ne.2 (by omega))) rfl rfl rfl ?_
 refine AO.op (O.assign rfl rfl) rfl rfl rfl ?_
 refine AO.nil ?_
 refine AQ.thenN ?_
 refine AW.condF rfl ?_
 refine AW.seq ?_
 refine AW.region ?_
 refine AO.op (O.eql rfl rfl rfl (by exact beq_eq_false_iff_ne.2 (by omega))) rfl rfl rfl ?_
 refine AO.op (O.assign rfl rfl) rfl rfl rfl ?_
 refine AO.nil ?_
 refine AQ.thenN ?_
 refine AW.condF rfl ?_
 refine AW.seq ?_
 refine AW.region ?_
 refine AO.op (O.eql rfl rfl rfl (by exact beq_eq_false_iff_ne.2 (by omega))) rfl rfl rfl ?_
 refine AO.op (O.assign rfl rfl) rfl rfl rfl ?_
 refine AO.nil ?_
 refine AQ.thenN ?_
 refine AW.condF rfl ?_
 refine AW.seq ?_
 refine AW.region ?_
 refine AO.op (O.eql rfl rfl rfl (by exact beq_eq_false_iff_ne.2 (by omega))) rfl rfl rfl ?_
 refine AO.op (O.assign rfl rfl) rfl rfl rfl ?_
 refine AO.nil ?_
 refine AQ.thenN ?_
 refine AW.condF rfl ?_
 refine AW.seq ?_
 refine AW.region ?_
 refine AO.op (O.eql rfl rfl rfl (by exact beq_eq_false_iff_ne.2 (by omega))) rfl rfl rfl ?_
 refine AO.op (O.assign rfl rfl) rfl rfl rfl ?_
 refine AO.nil ?_
 refine AQ.thenN ?_
 refine AW.condF rfl ?_
 refine AW.seq ?_
 refine AW.region ?_
 refine AO.op (O.eql rfl rfl rfl (by exact beq_eq_false_iff_ne.2 (by omega))) rfl rfl rfl ?_
 refine AO.op (O.assign rfl rfl) rfl rfl rfl ?_
 refine AO.nil ?_
 refine AQ.thenN ?_
 refine AW.condF rfl ?_
 refine AW.seq ?_
 refine AW.region ?_
 refine AO.op (O.eql rfl rfl rfl (by exact beq_eq_false_iff_ne.2 (by omega))) rfl rfl rfl ?_
 refine AO.op (O.assign rfl rfl) rfl rfl rfl ?_
 refine AO.nil ?_
 refine AQ.thenN ?_
 refine AW.condF rfl ?_
 refine AW.skip ?_
 refine AQ.blockN ?_
 refine AQ.thenN ?_
 refine AW.seq ?_
 refine AW.region ?_
 refine AO.op (O.assign rfl rfl) rfl rfl rfl ?_
 refine AO.op (O.assign rfl rfl) rfl rfl rfl ?_
 refine AO.nil ?_
 refine AQ.thenN ?_
 refine AW.seq ?_
 refine AW.seq ?_
 refine AW.region ?_
 refine AO.op (O.fieldAddr rfl rfl) rfl rfl rfl ?_
 refine AO.op (O.load rfl rfl (by repeat (exact List.Mem.head _)) (by rfl)) rfl rfl rfl ?_
 refine AO.op (O.eql rfl rfl rfl (by exact beq_eq_false_iff_ne.2 (by omega))) rfl rfl rfl ?_
 refine AO.nil ?_
 refine AQ.thenN ?_
 refine AW.condF rfl ?_
 refine AW.g ?_
 refine G.nilRow 5 1 ?_
 refine AW.u ?_
 refine AW.skip ?_
 refine AQ.thenN ?_
 refine AW.seq ?_
 refine AW.region ?_
 refine AO.op (O.move rfl rfl) rfl rfl rfl ?_
 refine AO.op (O.move rfl rfl) rfl rfl rfl ?_
 refine AO.opB (O.buildSlice rfl rfl rfl (by rfl) (by rfl) (by rfl) (by rfl)) rfl rfl rfl ?_
 intro B2
 refine AO.g ?_
 (refine G.freezeSl 0 112 rfl rfl ⟨Nat.le_refl _, by unfold maxLen; omega⟩ ?_)
 refine G.unfull 112 rfl ?_
 refine AO.u ?_
 dsimp only [List.eraseIdx]
 (refine AO.append' (i := 0) rfl rfl rfl rfl (by rfl) (by rfl) rfl rfl rfl (by exact SrcA.ro TyD.ax (by rfl) (Nat.le_of_ble_eq_true rfl)) (by rfl) (by (unfold maxLen; omega)) (by omega) (by (dsimp only [List.set, List.cons_append, List.nil_append, List.take, List.drop]; done)) (fun _ => by (dsimp only [List.set]; done)) ?_)
 intro V3 hV3
 refine AO.op (O.assign rfl rfl) rfl rfl rfl ?_
 refine AO.nil ?_
 refine AQ.thenN ?_
 refine AW.seq ?_
 refine AW.seq ?_
 refine AW.region ?_
 refine AO.op (O.fieldAddr rfl rfl) rfl rfl rfl ?_
 refine AO.op (O.load rfl rfl (by repeat (first | exact List.Mem.head _ | refine List.Mem.tail _ ?_)) (by rfl)) rfl rfl rfl ?_
 refine AO.op (O.lenR rfl rfl) rfl rfl rfl ?_
 refine AO.op (O.move rfl rfl) rfl rfl rfl ?_
 refine AO.nil ?_
 refine AQ.thenN ?_
 refine AW.block ?_
 refine AW.loopK [(3, _), (7, _), (115, _), (116, _)] (fun nn E H => ∃ (k : Nat) (V : Value) (n : Nat) (xs : List AV), (V.oneCell' = true) ∧ ((k = 0 ∧ n = 1 ∧ xs = bytesA [91]) ∨ (k = 1 ∧ n = 2 ∧ xs = bytesA [91, 49])) ∧ nn = 1 - k ∧ E = [(0, .val V), (117, .val (.int .i64 (k : Int)))] ∧ H = [.row V 5 1 n xs, .blk B1 100 4 [.val (.int .i64 4), .val (.int .u64 0), roB [], .ro false 1 (uintR 1)]]) _ (⟨0, _, _, _, ‹_›, .inl ⟨rfl, rfl, rfl⟩, rfl, rfl, rfl⟩) (by repeat (first | exact envNil | refine envCons rfl ?_)) (by repeat (first | exact envNil | refine envCons rfl ?_)) (by repeat (first | exact subPnil | refine subPcons 0 rfl ?_)) ?_
 rintro nn E H ⟨k, V, n, xs, hV, hc, rfl, rfl, rfl⟩
 dsimp only [List.cons_append, List.nil_append]
 obtain ⟨rfl, rfl, rfl⟩ | ⟨rfl, rfl, rfl⟩ := hc
 ·skip
  refine AW.seq ?_
  refine AW.region ?_
  refine AO.op (O.lss rfl rfl rfl (by exact bTrue (by omega))) rfl rfl rfl ?_
  refine AO.nil ?_
  refine AQ.thenN ?_
  refine AW.seq ?_
  refine AW.condT rfl ?_
  refine AW.skip ?_
  refine AQ.thenN ?_
  refine AW.seq ?_
  refine AW.block ?_
  refine AW.seq ?_
  refine AW.region ?_
  refine AO.op (O.move rfl rfl) rfl rfl rfl ?_
  refine AO.op (O.idxR rfl rfl rfl ⟨(by omega), (by omega)⟩) rfl rfl rfl ?_
  (refine AO.op (O.loadRK rfl rfl (by (dsimp only [List.set, List.cons_append, List.nil_append, List.take, List.drop]; done)) (by rfl)) rfl rfl rfl ?_)
  refine AO.opB (O.alloc rfl (by (dsimp only [zerosA, List.replicate, List.append, List.flatten, AV.cells, Value.cells, List.toList_toArray, List.map]; done)) (by rfl)) rfl rfl rfl ?_
  intro B4
  refine AO.op (O.assign rfl rfl) rfl rfl rfl ?_
  (refine AO.store (i := 0) rfl rfl rfl rfl rfl rfl (by rfl) (by rfl) (by rfl) (by (dsimp only [List.set, List.cons_append, List.nil_append, List.take, List.drop]; done)) (by (dsimp only [List.set, List.cons_append, List.nil_append, List.take, List.drop]; done)) ?_)
  refine AO.nil ?_
  refine AQ.thenN ?_
  refine AW.seq ?_
  refine AW.block ?_
  refine AW.seq ?_
  refine AW.region ?_
  refine AO.op (O.fieldAddr rfl rfl) rfl rfl rfl ?_
  refine AO.op (O.load rfl rfl (by repeat (first | exact List.Mem.head _ | refine List.Mem.tail _ ?_)) (by rfl)) rfl rfl rfl ?_
  refine AO.op (O.eql rfl rfl rfl (by exact beq_eq_false_iff_ne.2 (by omega))) rfl rfl rfl ?_
  refine AO.op (O.move rfl rfl) rfl rfl rfl ?_
  refine AO.no rfl rfl rfl ?_
  refine AO.no rfl rfl rfl ?_
  refine AO.no rfl rfl rfl ?_
  refine AO.op (O.pickF rfl rfl rfl) rfl rfl rfl ?_
  refine AO.op (O.assign rfl rfl) rfl rfl rfl ?_
  refine AO.nil ?_
  refine AQ.thenN ?_
  refine AW.condF rfl ?_
  refine AW.seq ?_
  refine AW.region ?_
  refine AO.op (O.move rfl rfl) rfl rfl rfl ?_
  refine AO.op (O.gtr rfl rfl rfl (by exact bFalse (by omega))) rfl rfl rfl ?_
  refine AO.op (O.assign rfl rfl) rfl rfl rfl ?_
  refine AO.nil ?_
  refine AQ.thenN ?_
  refine AW.condF rfl ?_
  refine AW.skip ?_
  refine AQ.blockN ?_
  refine AQ.thenN ?_
  refine AW.region ?_
  refine AO.op (O.move rfl rfl) rfl rfl rfl ?_
  (refine AO.op (O.loadK rfl rfl (by repeat (exact List.Mem.head _)) (by (dsimp only [List.set, List.cons_append, List.nil_append, List.take, List.drop]; done)) (by rfl)) rfl rfl rfl ?_)
  refine AO.callMG 1 rfl rfl Tryz.func78 rfl rfl rfl rfl rfl rfl (put1_fn _ [91] (by decide)) ?_
  rintro _ _ ⟨V5, hV5, rfl, rfl⟩
  dsimp only [List.cons_append, List.nil_append, List.eraseIdx]
  refine AO.op (O.assign rfl rfl) rfl rfl rfl ?_
  refine AO.nil ?_
  refine AQ.blockN ?_
  refine AQ.thenN ?_
  refine AW.region ?_
  refine AO.op (O.add rfl rfl rfl (by exact wI64 (by omega))) rfl rfl rfl ?_
  refine AO.op (O.move rfl rfl) rfl rfl rfl ?_
  refine AO.nil ?_
  refine AQ.loopKN _ _ _ (by omega) (⟨1, _, _, _, ‹_›, .inr ⟨rfl, rfl, rfl⟩, rfl, rfl, rfl⟩) (by repeat (first | exact envNil | refine envCons rfl ?_)) (by repeat (first | exact envNil | refine envCons rfl ?_)) (by repeat (first | exact subPnil | refine subPcons 0 rfl ?_ | refine subPcons 1 rfl ?_))
 ·skip
  refine AW.seq ?_
  refine AW.region ?_
  refine AO.op (O.lss rfl rfl rfl (by exact bFalse (by omega))) rfl rfl rfl ?_
  refine AO.nil ?_
  refine AQ.thenN ?_
  refine AW.seq ?_
  refine AW.condF rfl ?_
  refine AW.exit ?_
  refine AQ.thenX ?_
  refine AQ.loopX ?_
  refine AQ.blockX rfl ?_
  refine AQ.thenN ?_
  refine AW.seq ?_
  refine AW.region ?_
  refine AO.op (O.move rfl rfl) rfl rfl rfl ?_
  refine AO.op (O.move rfl rfl) rfl rfl rfl ?_
  refine AO.opB (O.buildSlice rfl rfl rfl (by rfl) (by rfl) (by rfl) (by rfl)) rfl rfl rfl ?_
  intro B4
  refine AO.g ?_
  (refine G.freezeSl 0 144 rfl rfl ⟨Nat.le_refl _, by unfold maxLen; omega⟩ ?_)
  refine G.unfull 144 rfl ?_
  refine AO.u ?_
  dsimp only [List.eraseIdx]
  (refine AO.append' (i := 0) rfl rfl rfl rfl (by rfl) (by rfl) rfl rfl rfl (by exact SrcA.ro TyD.ax (by rfl) (Nat.le_of_ble_eq_true rfl)) (by rfl) (by (unfold maxLen; omega)) (by omega) (by (dsimp only [List.set, List.cons_append, List.nil_append, List.take, List.drop]; done)) (fun _ => by (dsimp only [List.set]; done)) ?_)
  intro V5 hV5
  refine AO.op (O.assign rfl rfl) rfl rfl rfl ?_
  refine AO.nil ?_
  refine AQ.thenN ?_
  refine AW.ret ?_
  refine AQ.g ?_
  (refine G.freezeRow 0 rfl [4] (by (repeat (first | exact frNil | refine frCons rfl ?_)); done) ?_)
  refine AQ.u ?_
  try dsimp only [List.map, List.eraseIdx, List.cons_append, List.nil_append]
  refine AQ.ret1 rfl rfl ⟨_, List.nil_sublist _, .nil⟩ (⟨rfl, rfl⟩)
 skip
end Go.Proofs.YtoonnnifelnaiaaGreatDoor.By
