/-
  A region that draws its order, in stages.
-/
import Derived.Test.YtiddmpmpjdnmeaaSv
namespace Go.Proofs.Ytiddmpmpjdnmeaa.A
open Go.RowKit L
set_option linter.unusedVariables false
set_option linter.unusedSimpArgs false

section
variable {P : Program} {ops : Array Oper} {N : Nat}

/-- The state on the way. -/
structure MJ (P : Program) (Γ : Cx) (ops : Array Oper) (Hs : List HE) (K : Env → List HE → Prop) (ord : List (Nat × Bool)) (late : List Nat) (listed : Array Bool) (A : Act) (W : World) (pre ms : List (Nat × Bool)) (Pd : List Nat) (E : Env) (H : List HE) (R : Nat → Prop) : Prop where
  size : listed.size = ops.size
  closed : Closed ops listed
  part : ∀ i, i < ops.size → (listed.getD i false = false ↔ i ∈ Pd ∨ i ∈ ms.map Prod.fst ∨ i ∈ late)
  ord : ord = pre ++ ms
  pdp : ∀ i ∈ Pd, (i, false) ∈ pre
  am : AM P Γ.N ops Hs K ms E H
  pend : ∀ i ∈ Pd, ∃ o d v, ops[i]? = some o ∧ o.dst = some d ∧ d < Γ.N ∧ look E d = some v ∧ OpF P Γ.N ops o (rst E (o.looksAt ops)) Hs (Is v)
  rels : RelS Γ R (H ++ Hs) W
  defers : A.defers = []
  tmps : A.tmps.size = Γ.N
  act : ∀ t v, look E t = some v → (∀ i ∈ Pd, ∀ o, ops[i]? = some o → o.dst ≠ some t) → RelV R W v (A.eval (.tmp t))

variable {Γ : Cx} {Hs : List HE} {K : Env → List HE → Prop} {ord : List (Nat × Bool)} {late : List Nat}

/-- What reads is pending as soon as it may run. -/
theorem MJ.absorb {listed : Array Bool} {A : Act} {W : World} {R : Nat → Prop} (hok : ordPairs ops (ancs ops.toList []) ord = true) : ∀ (ms pre : List (Nat × Bool)) (Pd : List Nat) (E : Env) (H : List HE), MJ P Γ ops Hs K ord late listed A W pre ms Pd E H R →
    ∃ pre' ms' Pd' E', MJ P Γ ops Hs K ord late listed A W pre' ms' Pd' E' H R ∧ (ms' = [] ∨ ∃ m r, ms' = (m, true) :: r)
  | [], pre, Pd, E, H, h => ⟨pre, [], Pd, E, h, .inl rfl⟩
  | (m, true) :: r, pre, Pd, E, H, h => ⟨pre, _, Pd, E, h, .inr ⟨m, r, rfl⟩⟩
  | (j, false) :: r, pre, Pd, E, H, h => by
    obtain ⟨o, d, v, ho, hd, hN, hop, ham⟩ := h.am
    have hord := h.ord
    have hq := ordPairs_app (pre := pre) (r := (j, false) :: r) (by rw [← hord]; exact hok)
    have hself : d ∉ o.looksAt ops := by
      have := hq.1
      rw [ordPairs] at this
      simp only [Bool.and_eq_true, ho, hd, Bool.false_or] at this
      simpa using this.1.1
    have hp : ∀ i ∈ Pd, ∀ oi, ops[i]? = some oi → d ∉ oi.looksAt ops ∧ oi.dst ≠ some d := fun i hi oi hoi => by
      have := pairOk (hq.2 _ (h.pdp i hi) (j, false) (List.mem_cons_self ..)) hoi ho
      obtain ⟨d', h1, h2, h3⟩ := this.flt rfl
      rw [hd] at h1
      cases h1
      exact ⟨h2, h3⟩
    refine MJ.absorb hok r (pre ++ [(j, false)]) (j :: Pd) ((d, v) :: E) H ⟨h.size, h.closed, fun i hi => ?_, by rw [hord]; simp, fun i hi => ?_, ham, fun i hi => ?_, h.rels, h.defers, h.tmps, fun t x ht hpd => ?_⟩
    · rw [h.part i hi]
      simp only [List.map_cons, List.mem_cons]
      constructor
      · rintro (h | (h | h) | h)
        · exact .inl (.inr h)
        · exact .inl (.inl h)
        · exact .inr (.inl h)
        · exact .inr (.inr h)
      · rintro ((h | h) | h | h)
        · exact .inr (.inl (.inl h))
        · exact .inl h
        · exact .inr (.inl (.inr h))
        · exact .inr (.inr h)
    · rcases List.mem_cons.1 hi with rfl | hi
      · simp
      · exact List.mem_append_left _ (h.pdp i hi)
    · rcases List.mem_cons.1 hi with rfl | hi
      · exact ⟨o, d, v, ho, hd, hN, look_here, by rw [rst_skip hself]; exact hop⟩
      · obtain ⟨oi, di, vi, h1, h2, h3, h4, h5⟩ := h.pend i hi
        obtain ⟨h6, h7⟩ := hp i hi oi h1
        refine ⟨oi, di, vi, h1, h2, h3, ?_, by rw [rst_skip h6]; exact h5⟩
        rw [look_skip (fun e => h7 (by rw [h2, e]))]; exact h4
    · have hne : d ≠ t := fun e => hpd j (List.mem_cons_self ..) o ho (by rw [hd, e])
      rw [look_skip hne] at ht
      exact h.act t x ht fun i hi => hpd i (List.mem_cons_of_mem _ hi)

theorem MJ.reads {listed : Array Bool} {A : Act} {W : World} {R : Nat → Prop} {pre ms : List (Nat × Bool)} {Pd : List Nat} {E : Env} {H : List HE} (hok : ordPairs ops (ancs ops.toList []) ord = true) (h : MJ P Γ ops Hs K ord late listed A W pre ms Pd E H R)
    {i : Nat} {b : Bool} {o : Oper} (ho : ops[i]? = some o) (hdeps : ∀ e ∈ o.after, Region.binds .any e = true → listed.getD e.on false = true) (hi : (i, b) ∈ pre ∧ i ∈ Pd ∧ b = false ∨ ∃ r, ms = (i, b) :: r) : RelA Γ.N R W (rst E (o.looksAt ops)) A := by
  refine ⟨h.defers, h.tmps, fun t v ht => ?_⟩
  obtain ⟨htl, ht⟩ := look_rst ht
  refine h.act t v ht fun k hk ok hok' hdk => ?_
  have hkp := h.pdp k hk
  have hkf : listed.getD k false = false := (h.part k (Array.getElem?_eq_some_iff.1 hok').1).2 (.inl hk)
  have direct : ordPair ops (ancs ops.toList []) k false i b = true → False := fun hp => by
    obtain ⟨e, he, hb, hon⟩ := (pairOk hp hok' ho).reads t hdk htl
    have := hdeps e he hb
    rw [hon, hkf] at this; cases this
  rcases hi with ⟨hip, hiP, rfl⟩ | ⟨r, hms⟩
  · -- both ahead
    obtain ⟨p1, p2, hp12⟩ := List.append_of_mem hkp
    have hord := h.ord
    rw [hp12, List.append_assoc] at hord
    rw [hp12] at hip
    rcases List.mem_append.1 hip with hip | hip
    · -- i ahead of k
      have hq := ordPairs_app (pre := p1) (by rw [← hord]; exact hok)
      have := pairOk (hq.2 _ hip (k, false) (List.mem_cons_self ..)) ho hok'
      obtain ⟨d', h1, h2, -⟩ := this.flt rfl
      rw [hdk] at h1; cases h1
      exact h2 htl
    · rcases List.mem_cons.1 hip with he | hip
      · cases he
        -- itself
        have hq := (ordPairs_app (pre := p1) (by rw [← hord]; exact hok)).1
        rw [List.cons_append, ordPairs] at hq
        simp only [Bool.and_eq_true] at hq
        obtain rfl : o = ok := by rw [ho] at hok'; exact Option.some.inj hok'
        have := hq.1.1
        rw [ho] at this
        simp only [hdk, Bool.false_or] at this
        simp at this
        exact this htl
      · rw [show p1 ++ ((k, false) :: p2 ++ ms) = (p1 ++ [(k, false)]) ++ (p2 ++ ms) by simp] at hord
        have hq := ordPairs_app (pre := p1 ++ [(k, false)]) (by rw [← hord]; exact hok)
        exact direct (hq.2 (k, false) (by simp) (i, false) (List.mem_append_left _ hip))
  · have hq := ordPairs_app (pre := pre) (r := ms) (by rw [← h.ord]; exact hok)
    exact direct (hq.2 _ hkp (i, b) (by rw [hms]; exact List.mem_cons_self ..))

/-- One stage. -/
theorem MJ.stage {Q : Exit → Act → World → Prop} (hback : ∀ i o, ops[i]? = some o → ∀ e ∈ o.after, Region.binds .any e = true → e.on < i) (hpairs : ordPairs ops (ancs ops.toList []) ord = true) (hlt : ∀ q ∈ ord, q.1 < ops.size)
    (hlate : ∀ j ∈ late, ∀ q ∈ ord, q.1 ∈ (ancs ops.toList []).getD j [])
    (hfin : ∀ (listed : Array Bool) (A : Act) (W : World) (E : Env) (H : List HE) (R : Nat → Prop), listed.size = ops.size → Closed ops listed → (∀ i, i < ops.size → (listed.getD i false = false ↔ i ∈ late)) → RelS Γ R (H ++ Hs) W → RelA Γ.N R W E A → K E H → wpAny P .any ops Q (listed.toList.count false) listed A W) :
    ∀ (fuel : Nat) (listed : Array Bool) (A : Act) (W : World) (pre ms : List (Nat × Bool)) (Pd : List Nat) (E : Env) (H : List HE) (R : Nat → Prop), fuel = listed.toList.count false →
      MJ P Γ ops Hs K ord late listed A W pre ms Pd E H R → (ms = [] ∨ ∃ m r, ms = (m, true) :: r) → wpAny P .any ops Q fuel listed A W := by
  intro fuel
  induction fuel with
  | zero =>
    intro listed A W pre ms Pd E H R hc hI hhd
    have hlist : ∀ i, i < ops.size → listed.getD i false = true := by
      intro i hi
      have hi' : i < listed.size := by rw [hI.size]; exact hi
      cases hb : listed.getD i false with
      | true => rfl
      | false =>
        exfalso
        have hm : false ∈ listed.toList := by
          rw [← hb]; simp [Array.getD, hi']
        have := List.count_pos_iff.2 hm
        omega
    have hms : ms = [] := by
      rcases hhd with h | ⟨m, r, h⟩
      · exact h
      · have h1 := hlt (m, true) (by rw [hI.ord, h]; simp)
        have := (hI.part m h1).2 (.inr (.inl (by rw [h]; simp)))
        rw [hlist m h1] at this; cases this
    have hPd : Pd = [] := by
      rw [List.eq_nil_iff_forall_not_mem]
      intro i hi
      have h1 := hlt (i, false) (by rw [hI.ord]; exact List.mem_append_left _ (hI.pdp i hi))
      have := (hI.part i h1).2 (.inl hi)
      rw [hlist i h1] at this; cases this
    subst hms
    subst hPd
    rw [hc]
    exact hfin listed A W E H R hI.size hI.closed (fun i hi => by rw [hI.part i hi]; simp) hI.rels ⟨hI.defers, hI.tmps, fun t v ht => hI.act t v ht fun i hi => (by cases hi)⟩ hI.am
  | succ fuel ih =>
    intro listed A W pre ms Pd E H R hc hI hhd
    by_cases hemp : ms = [] ∧ Pd = []
    · obtain ⟨rfl, rfl⟩ := hemp
      rw [hc]
      exact hfin listed A W E H R hI.size hI.closed (fun i hi => by rw [hI.part i hi]; simp) hI.rels ⟨hI.defers, hI.tmps, fun t v ht => hI.act t v ht fun i hi => (by cases hi)⟩ hI.am
    have hun : ∃ q ∈ ord, listed.getD q.1 false = false := by
      rcases hhd with h | ⟨m, r, h⟩
      · cases Pd with
        | nil => exact absurd ⟨h, rfl⟩ hemp
        | cons p Pd =>
          have h1 : (p, false) ∈ ord := by rw [hI.ord]; exact List.mem_append_left _ (hI.pdp p (List.mem_cons_self ..))
          exact ⟨_, h1, (hI.part p (hlt _ h1)).2 (.inl (List.mem_cons_self ..))⟩
      · have h1 : (m, true) ∈ ord := by rw [hI.ord, h]; simp
        exact ⟨_, h1, (hI.part m (hlt _ h1)).2 (.inr (.inl (by rw [h]; simp)))⟩
    have hne : ∃ i, i ∈ Region.ready .any ops listed := by
      have hex : ∃ i, i < ops.size ∧ listed.getD i false = false := by
        have hpos : 0 < listed.toList.count false := by omega
        obtain ⟨i, hi, hf⟩ := List.getElem_of_mem (List.count_pos_iff.1 hpos)
        have hi' : i < listed.size := by simpa using hi
        exact ⟨i, by rw [← hI.size]; exact hi', by simpa [Array.getD, hi'] using hf⟩
      obtain ⟨i, ⟨hi, hf⟩, hmin⟩ : ∃ i, (i < ops.size ∧ listed.getD i false = false) ∧ ∀ j, j < i → ¬ (j < ops.size ∧ listed.getD j false = false) := by
        obtain ⟨i, h⟩ := hex
        exact least ⟨i, h⟩
      have hio : ops[i]? = some ops[i] := by simp [hi]
      refine ⟨i, mem_ready.2 ⟨by rw [getD_tf (by rw [hI.size]; exact hi)]; exact hf, _, hio, fun e he hb => ?_⟩⟩
      have := hback i _ hio e he hb
      cases hb2 : listed.getD e.on false with
      | true => rfl
      | false => exact absurd ⟨by omega, hb2⟩ (hmin e.on this)
    refine ⟨fun e => (by obtain ⟨i, hi⟩ := hne; rw [e] at hi; cases hi), fun i hi => ?_⟩
    obtain ⟨h0, o, ho, hdeps⟩ := mem_ready.1 hi
    have hio : i < ops.size := (Array.getElem?_eq_some_iff.1 ho).1
    have hf : listed.getD i false = false := by rw [← getD_tf (by rw [hI.size]; exact hio)]; exact h0
    have hil : i < listed.size := by rw [hI.size]; exact hio
    have hanc : ∀ j, j ∈ (ancs ops.toList []).getD i [] → listed.getD j false = true := fun j hj => anc_listed hI.closed hback i o ho hdeps j hj
    have hcl := closed_set hI.closed ho hil hdeps
    have hcnt : fuel = (listed.setIfInBounds i true).toList.count false := by
      have hcs := count_set_true listed.toList i (by simpa using hil) (by simpa [Array.getD, hil] using hf)
      simp only [Array.toList_setIfInBounds]
      omega
    have hgd : ∀ k, k ≠ i → (listed.setIfInBounds i true).getD k false = listed.getD k false := fun k hk => getD_set_ne false (Ne.symm hk)
    have hgi : (listed.setIfInBounds i true).getD i false = true := by simp [Array.getD, hil]
    have hsz : (listed.setIfInBounds i true).size = ops.size := by simpa using hI.size
    have hnl : i ∉ late := fun h => by
      obtain ⟨q, hq, hqf⟩ := hun
      have := hanc q.1 (hlate i h q hq)
      rw [hqf] at this; cases this
    rcases (hI.part i hio).1 hf with hPd | hms | hlt'
    · -- one that reads
      obtain ⟨o', d, v, ho', hd, hN, hlk, hop⟩ := hI.pend i hPd
      obtain rfl : o = o' := by rw [ho] at ho'; exact Option.some.inj ho'
      have hA := hI.reads hpairs ho hdeps (b := false) (.inl ⟨hI.pdp i hPd, hPd, rfl⟩)
      have hs := hop R A W hI.rels.rlt (fun e he => hI.rels.ok e (List.mem_append_right _ he)) (fun e he b hb => (hI.rels.own e (List.mem_append_right _ he) b hb).2) hA
      have hnext : ∀ u W', (∃ v' Hn R', Is v v' Hn ∧ Post1 R W v' Hn u W' R') → wpAny P .any ops Q fuel (listed.setIfInBounds i true) (A.put o.dst u) W' := by
        rintro u W' ⟨v', Hn, R', ⟨rfl, rfl⟩, hp⟩
        have hnm : i ∉ ms.map Prod.fst := fun hm => by
          obtain ⟨⟨j, c⟩, hq, hji⟩ := List.mem_map.1 hm
          have hq2 := (ordPairs_app (pre := pre) (r := ms) (by rw [← hI.ord]; exact hpairs)).2 _ (hI.pdp i hPd) _ hq
          simp only at hji
          subst hji
          exact (pairOk hq2 ho ho).ne rfl
        refine ih _ _ _ pre ms (Pd.filter (· ≠ i)) E H R' hcnt ⟨hsz, hcl, fun k hk => ?_, hI.ord, fun k hk => hI.pdp k (List.mem_filter.1 hk).1, hI.am, fun k hk => hI.pend k (List.mem_filter.1 hk).1, by simpa using hI.rels.step hp, ?_, ?_, fun t x ht hpd => ?_⟩ hhd
        · by_cases hki : k = i
          · subst hki
            rw [hgi]
            simp [hnm, hnl]
          · rw [hgd k hki, hI.part k hk]
            simp [hki]
        · rw [hd]; exact hI.defers
        · rw [hd]; simp [Act.put, hI.tmps]
        · rw [hd]
          by_cases hdt : d = t
          · subst hdt
            rw [hlk] at ht
            cases ht
            rw [eval_put_same (by rw [hI.tmps]; exact hN)]; exact hp.val
          · rw [eval_put_other hdt]
            refine (hI.act t x ht fun k hk ok hok hdk => ?_).mono hp.sub (extSame hp.ext hI.rels.rlt)
            by_cases hki : k = i
            · subst hki
              rw [ho] at hok
              cases hok
              rw [hd] at hdk
              cases hdk
              exact hdt rfl
            · exact hpd k (List.mem_filter.2 ⟨hk, by simpa using hki⟩) ok hok hdk
      unfold wpOp
      rw [ho]
      unfold FStep at hs
      show if Region.wanted o (yielded ops A.tmps) = true then _ else _
      split
      · rename_i hw
        rw [if_pos hw] at hs
        refine .inl (Oper.wp_mono ?_ (wp_of_noQ hs))
        rintro A' W' ⟨u, rfl, hp⟩
        exact hnext u W' hp
      · rename_i hw
        rw [if_neg hw] at hs
        exact hnext _ _ hs
    · -- the next that writes
      rcases hhd with rfl | ⟨m, r, rfl⟩
      · cases hms
      have hmlt : m < ops.size := by have := hlt (m, true) (by rw [hI.ord]; simp); exact this
      have hmf : listed.getD m false = false := (hI.part m hmlt).2 (.inr (.inl (by simp)))
      have him : i = m := by
        rcases List.mem_cons.1 hms with h | h
        · exact h
        · exfalso
          obtain ⟨⟨j, c⟩, hq, hji⟩ := List.mem_map.1 h
          simp only at hji
          subst hji
          have h9 := (ordPairs_app (pre := pre ++ [(m, true)]) (r := r) (by have := hI.ord; rw [List.append_assoc, List.singleton_append, ← this]; exact hpairs)).2 (m, true) (by simp) _ hq
          have hom : ops[m]? = some ops[m] := by simp [hmlt]
          have := hanc m ((pairOk h9 hom ho).main rfl)
          rw [hmf] at this; cases this
      subst him
      obtain ⟨o', ho', hAO⟩ := hI.am
      obtain rfl : o = o' := by rw [ho] at ho'; exact Option.some.inj ho'
      have hA := hI.reads hpairs ho hdeps (b := true) (.inr ⟨r, rfl⟩)
      have hs := hAO W R R A W ⟨Mods.refl _ _, hI.rels.rlt, fun _ h => h, fun _ h => .inl h, fun e he => hI.rels.ok e (List.mem_append_left _ he), fun e he b hb => ⟨.inr ⟨e, he, hb⟩, (hI.rels.own e (List.mem_append_left _ he) b hb).2⟩, (List.pairwise_append.1 hI.rels.disj).1⟩ hA
      have hnext : ∀ u W', QS ⟨W, footOf H, R, Γ.N⟩ o.dst (fun v H' => AM P Γ.N ops Hs K r (putE o.dst v E) H') .normal (A.put o.dst u) W' → wpAny P .any ops Q fuel (listed.setIfInBounds i true) (A.put o.dst u) W' := by
        rintro u W' ⟨hdf, v, H', R', ham, hsr, hvr⟩
        obtain ⟨hrel, hRW⟩ := RelS.part hI.rels hsr
        have hpd : ∀ k ∈ Pd, ∀ ok, ops[k]? = some ok → ∀ d, o.dst = some d → d ∉ ok.looksAt ops ∧ ok.dst ≠ some d := fun k hk ok hok d hd => by
          have h9 := (ordPairs_app (pre := pre) (r := (i, true) :: r) (by rw [← hI.ord]; exact hpairs)).2 _ (hI.pdp k hk) (i, true) (List.mem_cons_self ..)
          have hkf : listed.getD k false = false := (hI.part k (Array.getElem?_eq_some_iff.1 hok).1).2 (.inl hk)
          have hno : k ∉ (ancs ops.toList []).getD i [] := fun hm => by
            have := hanc k hm
            rw [hkf] at this; cases this
          exact ⟨fun hm => hno ((pairOk h9 hok ho).mn rfl d hd (.inl hm)), fun he => hno ((pairOk h9 hok ho).mn rfl d hd (.inr he))⟩
        have hnr : i ∉ r.map Prod.fst := fun hm => by
          obtain ⟨⟨j, c⟩, hq, hji⟩ := List.mem_map.1 hm
          have h9 := (ordPairs_app (pre := pre ++ [(i, true)]) (r := r) (by have := hI.ord; rw [List.append_assoc, List.singleton_append, ← this]; exact hpairs)).2 (i, true) (by simp) _ hq
          simp only at hji
          subst hji
          exact (pairOk h9 ho ho).ne rfl
        have hnp : i ∉ Pd := fun hk => by
          have h9 := (ordPairs_app (pre := pre) (r := (i, true) :: r) (by rw [← hI.ord]; exact hpairs)).2 _ (hI.pdp i hk) (i, true) (List.mem_cons_self ..)
          exact (pairOk h9 ho ho).ne rfl
        have hI' : MJ P Γ ops Hs K ord late (listed.setIfInBounds i true) (A.put o.dst u) W' (pre ++ [(i, true)]) r Pd (putE o.dst v E) H' R' := by
          refine ⟨hsz, hcl, fun k hk => ?_, by rw [hI.ord]; simp, fun k hk => List.mem_append_left _ (hI.pdp k hk), ham, fun k hk => ?_, hrel, hdf, ?_, fun t x ht hp => ?_⟩
          · by_cases hki : k = i
            · subst hki
              rw [hgi]
              simp [hnr, hnp, hnl]
            · rw [hgd k hki, hI.part k hk]
              simp [hki]
          · obtain ⟨ok, dk, vk, h1, h2, h3, h4, h5⟩ := hI.pend k hk
            refine ⟨ok, dk, vk, h1, h2, h3, ?_, ?_⟩
            · cases hd : o.dst with
              | none => exact h4
              | some d => rw [putE, look_skip (fun e => (hpd k hk ok h1 d hd).2 (by rw [h2, e]))]; exact h4
            · cases hd : o.dst with
              | none => exact h5
              | some d => rw [putE, rst_skip (hpd k hk ok h1 d hd).1]; exact h5
          · cases hd : o.dst <;> simp [Act.put, hI.tmps]
          · cases hd : o.dst with
            | none =>
              rw [hd] at ht
              exact (hI.act t x ht hp).mono hsr.rsub hRW
            | some d =>
              rw [hd, putE] at ht
              by_cases hdt : d = t
              · subst hdt
                rw [look_here] at ht
                cases ht
                have := hvr d hd
                rwa [hd] at this
              · rw [look_skip hdt] at ht
                rw [eval_put_other hdt]
                exact (hI.act t x ht hp).mono hsr.rsub hRW
        obtain ⟨pre', ms', Pd', E', hI2, hh2⟩ := hI'.absorb hpairs
        exact ih _ _ _ pre' ms' Pd' E' H' R' hcnt hI2 hh2
      unfold wpOp
      rw [ho]
      unfold wpList at hs
      show if Region.wanted o (yielded ops A.tmps) = true then _ else _
      split
      · rename_i hw
        rw [if_pos hw] at hs
        refine .inl ?_
        rcases hs with hs | ⟨-, a', w', hl⟩
        · have hs2 : o.wp P A W (wpList P ops (QS ⟨W, footOf H, R, Γ.N⟩ o.dst (fun v H' => AM P Γ.N ops Hs K r (putE o.dst v E) H')) []) NoQ := by
            unfold Oper.wp at hs ⊢
            revert hs
            cases (execOp A.eval o).run P W with
            | ok n w' =>
              cases n with
              | enter f args =>
                intro hs
                refine Calls.mono hs ?_
                intro e w'' he
                cases e with
                | returned v => exact he
                | outgrown => obtain ⟨a', w', hl⟩ := he; exact hl.elim
                | _ => exact he.elim
              | _ => exact fun h => h
            | halt x w' => cases x <;> exact fun h => h
          refine Oper.wp_mono ?_ (wp_of_noQ (Oper.wp_put hs2))
          rintro A' W' ⟨hq, hA'⟩
          have hq' : QS ⟨W, footOf H, R, Γ.N⟩ o.dst (fun v H' => AM P Γ.N ops Hs K r (putE o.dst v E) H') .normal A' W' := hq
          rcases hA' with ⟨u, rfl⟩ | hnd
          · exact hnext u W' hq'
          · exact absurd hq'.1 hnd
        · exact hl.elim
      · rename_i hw
        rw [if_neg hw] at hs
        exact hnext _ _ hs
    · exact absurd hlt' hnl

/-- Operations in stages. -/
def AMS (P : Program) (N : Nat) (ops : Array Oper) (K : Env → List HE → Prop) : List (List (Nat × Bool)) → Env → List HE → Prop
  | [], E, H => K E H
  | ord :: r, E, H => ∃ Hm Hs, SplitH E H Hm Hs ∧ AM P N ops Hs (fun E' H' => AMS P N ops K r E' (H' ++ Hs)) ord E Hm
theorem AMS.go {ord : List (Nat × Bool)} {r : List (List (Nat × Bool))} {E : Env} {H Hm Hs : List HE} (hH : SplitH E H Hm Hs) (h : AM P N ops Hs (fun E' H' => AMS P N ops K r E' (H' ++ Hs)) ord E Hm) : AMS P N ops K (ord :: r) E H := ⟨Hm, Hs, hH, h⟩
theorem AMS.nil {E : Env} {H : List HE} (h : K E H) : AMS P N ops K [] E H := h
def stagesOk (ops : Array Oper) (an : List (List Nat)) : List (List (Nat × Bool)) → Bool
  | [] => true
  | ord :: r => ordPairs ops an ord && (ord.all fun q => decide (q.1 < ops.size)) && (r.all fun s => s.all fun j => ord.all fun q => (an.getD j.1 []).contains q.1) && stagesOk ops an r
def stagesAll (ops : Array Oper) (os : List (List (Nat × Bool))) : Bool :=
  ((List.range ops.size).all fun i => os.any fun ord => ord.any fun q => q.1 == i) &&
  ((List.range ops.size).all fun i => (ops[i]?).all fun o => o.after.all fun e => !Region.binds .any e || decide (e.on < i)) && stagesOk ops (ancs ops.toList []) os
theorem AMS.run {Q : Exit → Act → World → Prop} (hback : ∀ i o, ops[i]? = some o → ∀ e ∈ o.after, Region.binds .any e = true → e.on < i) : ∀ (os : List (List (Nat × Bool))), stagesOk ops (ancs ops.toList []) os = true →
    ∀ (listed : Array Bool) (A : Act) (W : World) (E : Env) (H : List HE) (R : Nat → Prop), listed.size = ops.size → Closed ops listed → (∀ i, i < ops.size → (listed.getD i false = false ↔ i ∈ (os.flatten).map Prod.fst)) → RelS Γ R H W → RelA Γ.N R W E A →
      AMS P Γ.N ops (fun E' H' => AQ Γ Q .normal E' H') os E H → wpAny P .any ops Q (listed.toList.count false) listed A W
  | [], _, listed, A, W, E, H, R, hsz, hcl, hpt, hs, ha, h => by
    have hlist : ∀ i, i < ops.size → listed.getD i false = true := by
      intro i hi
      cases hb : listed.getD i false with
      | true => rfl
      | false => have := (hpt i hi).1 hb; cases this
    have h0 : listed.toList.count false = 0 := by
      rw [List.count_eq_zero]
      intro hm
      obtain ⟨i, hi, hf⟩ := List.getElem_of_mem hm
      have hi' : i < listed.size := by simpa using hi
      have := hlist i (by rw [← hsz]; exact hi')
      rw [show listed.getD i false = listed[i] by simp [Array.getD, hi']] at this
      rw [show listed.toList[i] = listed[i] by simp, this] at hf
      cases hf
    rw [h0]
    refine ⟨?_, h R A W hs ha⟩
    rw [List.eq_nil_iff_forall_not_mem]
    intro i hi
    obtain ⟨h0, o, ho, _⟩ := mem_ready.1 hi
    have hi' : i < ops.size := (Array.getElem?_eq_some_iff.1 ho).1
    have := hlist i hi'
    rw [← getD_tf (by rw [hsz]; exact hi')] at this
    rw [this] at h0; cases h0
  | ord :: os, hok, listed, A, W, E, H, R, hsz, hcl, hpt, hs, ha, h => by
    rw [stagesOk] at hok
    simp only [Bool.and_eq_true, List.all_eq_true, decide_eq_true_eq, List.contains_eq_mem] at hok
    obtain ⟨⟨⟨hp, hlt⟩, hlate⟩, hrest⟩ := hok
    obtain ⟨Hm, Hs, hH, hAM⟩ := h
    have hI : MJ P Γ ops Hs (fun E' H' => AMS P Γ.N ops (fun E' H' => AQ Γ Q .normal E' H') os E' (H' ++ Hs)) ord (os.flatten.map Prod.fst) listed A W [] ord [] E Hm R := by
      refine ⟨hsz, hcl, fun i hi => ?_, rfl, fun i hi => (by cases hi), hAM, fun i hi => (by cases hi), hs.perm hH.symm, ha.defers, ha.size, fun t v ht _ => ha.slots t v ht⟩
      rw [hpt i hi]
      simp
    obtain ⟨pre', ms', Pd', E', hI2, hh2⟩ := hI.absorb hp
    refine MJ.stage hback hp hlt (fun j hj q hq => ?_) (fun listed A W E H R h1 h2 h3 h4 h5 h6 => AMS.run hback os hrest listed A W E _ R h1 h2 h3 h4 h5 h6) _ listed A W pre' ms' Pd' E' Hm R rfl hI2 hh2
    obtain ⟨x, hx, rfl⟩ := List.mem_map.1 hj
    obtain ⟨s, hs1, hs2⟩ := List.mem_flatten.1 hx
    exact hlate s hs1 x hs2 q hq
theorem AW.regionS {Q : Exit → Act → World → Prop} {E : Env} {H : List HE} {id : Nat} {l : List Oper} (os : List (List (Nat × Bool))) (hm : P.follows .mixedOrders = true) (hok : stagesAll l.toArray os = true)
    (h : AMS P Γ.N l.toArray (fun E' H' => AQ Γ Q .normal E' H') os E H) : AW Γ P Q (.region id l.toArray true) E H := fun R a W hs0 ha0 => by
  obtain ⟨ops, hops⟩ : ∃ ops, ops = l.toArray := ⟨_, rfl⟩
  rw [← hops] at h hok
  simp only [stagesAll, Bool.and_eq_true, List.all_eq_true, List.mem_range] at hok
  obtain ⟨⟨hall, hbk⟩, hst⟩ := hok
  have hback : ∀ i o, ops[i]? = some o → ∀ e ∈ o.after, Region.binds .any e = true → e.on < i := fun i o ho e he hb => by
    have hi : i < ops.size := (Array.getElem?_eq_some_iff.1 ho).1
    have := hbk i hi
    rw [ho] at this
    simp only [Option.all_some] at this
    have := Array.all_eq_true_iff_forall_mem.1 this e he
    simpa [hb] using this
  have hs : RelS Γ R H W.drew := ⟨hs0.mods.drew, hs0.rlt, hs0.rsub, hs0.rnew, fun e he => HE.ok_mono (W := W) (W' := W.drew) (fun _ h => h) (fun _ _ => rfl) (Nat.le_refl _) (fun _ _ => rfl) (hs0.ok e he), hs0.own, hs0.disj⟩
  have ha : RelA Γ.N R W.drew E a := ha0.mono (fun _ h => h) (fun _ _ => rfl)
  refine wp_region_any hm ?_
  rw [← hops]
  have hc : (Array.replicate ops.size false).toList.count false = ops.size := by simp
  have := AMS.run (Γ := Γ) hback os hst (Array.replicate ops.size false) a W.drew E H R (by simp) (fun i o hl => by
    exfalso
    by_cases h : i < ops.size <;> simp [Array.getD, h] at hl) (fun i hi => by
      have := hall i hi
      simp only [List.any_eq_true, beq_iff_eq] at this
      obtain ⟨ord, ho, q, hq, hqi⟩ := this
      constructor
      · intro _
        exact List.mem_map.2 ⟨q, List.mem_flatten.2 ⟨ord, ho, hq⟩, hqi⟩
      · intro _
        simp [Array.getD, hi]) hs ha h
  rw [hc] at this
  exact this
end
end Go.Proofs.Ytiddmpmpjdnmeaa.A
