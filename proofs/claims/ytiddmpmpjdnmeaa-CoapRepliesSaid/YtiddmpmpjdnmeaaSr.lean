/-
  A region that draws its order, in which operations that read wait about while others write, one after the other.
-/
import Derived.Test.YtiddmpmpjdnmeaaSq
namespace Go.Proofs.Ytiddmpmpjdnmeaa.A
open Go.RowKit L
set_option linter.unusedVariables false
set_option linter.unusedSimpArgs false

section
variable {P : Program} {ops : Array Oper} {N : Nat}

/-- What an operation leaves, its temporary told apart. -/
theorem Oper.wp_put {o : Oper} {a : Act} {w : World} {K : Act → World → Prop} {Q : Exit → Act → World → Prop} (h : o.wp P a w K Q) : o.wp P a w (fun A' W' => K A' W' ∧ ((∃ u, A' = a.put o.dst u) ∨ A'.defers ≠ [])) Q := by
  unfold Oper.wp at h ⊢
  cases hr : (execOp a.eval o).run P w with
  | ok n w' =>
    rw [hr] at h
    cases n with
    | value v => exact ⟨h, .inl ⟨v, rfl⟩⟩
    | skip => exact ⟨h, .inl ⟨_, rfl⟩⟩
    | defer d => exact ⟨h, .inr (by simp [Act.put]; split <;> simp)⟩
    | enter f args =>
      refine Calls.mono h ?_
      intro e w'' he
      cases e with
      | returned v => exact ⟨he, .inl ⟨v, rfl⟩⟩
      | _ => exact he
    | row r args =>
      refine Rows.mono h ?_
      intro v w'' he
      exact ⟨he, .inl ⟨v, rfl⟩⟩
    | _ => exact h
  | halt x w' =>
    rw [hr] at h
    cases x <;> exact h

theorem rst_skip {E : Env} {d : Nat} {v : AV} : ∀ {ts : List Nat}, d ∉ ts → rst ((d, v) :: E) ts = rst E ts
  | [], _ => rfl
  | t :: r, h => by
    simp only [List.mem_cons, not_or] at h
    have hb : Nat.beq d t = false := by
      cases hb : Nat.beq d t with
      | false => rfl
      | true => exact absurd (Nat.eq_of_beq_eq_true hb) h.1
    have hl : look ((d, v) :: E) t = look E t := by simp only [look, hb]; rfl
    rw [rst, rst, hl, rst_skip h.2]
theorem look_skip {E : Env} {d t : Nat} {v : AV} (h : d ≠ t) : look ((d, v) :: E) t = look E t := by
  have hb : Nat.beq d t = false := by
    cases hb : Nat.beq d t with
    | false => rfl
    | true => exact absurd (Nat.eq_of_beq_eq_true hb) h
  simp only [look, hb]; rfl
theorem look_here {E : Env} {d : Nat} {v : AV} : look ((d, v) :: E) d = some v := by simp [look]

/-- What a writing operation leaves. -/
def QS (Γ : Cx) (d : Option Nat) (S : AV → List HE → Prop) : Exit → Act → World → Prop := fun x a W =>
  match x with
  | .normal => a.defers = [] ∧ ∃ v H' R', S v H' ∧ RelS Γ R' H' W ∧ ∀ t, d = some t → RelV R' W v (a.eval (.tmp t))
  | _ => False
def putE : Option Nat → AV → Env → Env
  | some d, v, E => (d, v) :: E
  | none, _, E => E

/-- Operations in this order: true those that write, false those that read. -/
def AM (P : Program) (N : Nat) (ops : Array Oper) (Hs : List HE) (K : Env → List HE → Prop) : List (Nat × Bool) → Env → List HE → Prop
  | [], E, H => K E H
  | (i, true) :: r, E, H => ∃ o, ops[i]? = some o ∧ ∀ w0 R0, AO ⟨w0, footOf H, R0, N⟩ P ops (QS ⟨w0, footOf H, R0, N⟩ o.dst (fun v H' => AM P N ops Hs K r (putE o.dst v E) H')) [o] (rst E (o.looksAt ops)) H
  | (i, false) :: r, E, H => ∃ o d v, ops[i]? = some o ∧ o.dst = some d ∧ d < N ∧ OpF P N ops o (rst E (o.looksAt ops)) Hs (Is v) ∧ AM P N ops Hs K r ((d, v) :: E) H

/-- One operation ahead of another. -/
def ordPair (ops : Array Oper) (an : List (List Nat)) (i : Nat) (b : Bool) (j : Nat) (c : Bool) : Bool :=
  match ops[i]?, ops[j]? with
  | some oi, some oj =>
    let waits := oj.after.any fun e => Region.binds .any e && e.on == i
    let anc := (an.getD j []).contains i
    (i != j) && (!b || anc) &&
    (match oj.dst with
      | some d => if c then (!((oi.looksAt ops).contains d || oi.dst == some d)) || anc else !(oi.looksAt ops).contains d && oi.dst != some d
      | none => c) &&
    (match oi.dst with
      | some d => !(oj.looksAt ops).contains d || waits
      | none => true)
  | _, _ => false
def ordPairs (ops : Array Oper) (an : List (List Nat)) : List (Nat × Bool) → Bool
  | [] => true
  | (i, b) :: r => (b || (match ops[i]? with | some o => (match o.dst with | some d => !(o.looksAt ops).contains d | none => false) | none => false)) && r.all (fun q => ordPair ops an i b q.1 q.2) && ordPairs ops an r
def ordOk (ops : Array Oper) (ord : List (Nat × Bool)) : Bool :=
  ((List.range ops.size).all fun i => (ord.map Prod.fst).contains i) && (ord.all fun q => decide (q.1 < ops.size)) &&
  ((List.range ops.size).all fun i => (ops[i]?).all fun o => o.after.all fun e => !Region.binds .any e || decide (e.on < i)) && ordPairs ops (ancs ops.toList []) ord

theorem ordPairs_app {an : List (List Nat)} : ∀ {pre r : List (Nat × Bool)}, ordPairs ops an (pre ++ r) = true → ordPairs ops an r = true ∧ ∀ q ∈ pre, ∀ s ∈ r, ordPair ops an q.1 q.2 s.1 s.2 = true
  | [], r, h => ⟨h, fun q hq => by cases hq⟩
  | (i, b) :: pre, r, h => by
    rw [List.cons_append, ordPairs] at h
    simp only [Bool.and_eq_true, List.all_eq_true] at h
    obtain ⟨h1, h2⟩ := ordPairs_app h.2
    refine ⟨h1, fun q hq s hs => ?_⟩
    rcases List.mem_cons.1 hq with rfl | hq
    · exact h.1.2 s (List.mem_append_right _ hs)
    · exact h2 q hq s hs

structure PairOk (ops : Array Oper) (an : List (List Nat)) (i : Nat) (b : Bool) (oi : Oper) (j : Nat) (c : Bool) (oj : Oper) : Prop where
  ne : i ≠ j
  main : b = true → i ∈ an.getD j []
  flt : c = false → ∃ d, oj.dst = some d ∧ d ∉ oi.looksAt ops ∧ oi.dst ≠ some d
  mn : c = true → ∀ d, oj.dst = some d → (d ∈ oi.looksAt ops ∨ oi.dst = some d) → i ∈ an.getD j []
  reads : ∀ d, oi.dst = some d → d ∈ oj.looksAt ops → ∃ e ∈ oj.after, Region.binds .any e = true ∧ e.on = i
theorem pairOk {an : List (List Nat)} {i j : Nat} {b c : Bool} {oi oj : Oper} (h : ordPair ops an i b j c = true) (hi : ops[i]? = some oi) (hj : ops[j]? = some oj) : PairOk ops an i b oi j c oj := by
  unfold ordPair at h
  rw [hi, hj] at h
  simp only [Bool.and_eq_true, bne_iff_ne, ne_eq] at h
  obtain ⟨⟨⟨h1, h2⟩, h3⟩, h4⟩ := h
  refine ⟨h1, fun hb => ?_, fun hc => ?_, fun hc d hd hm => ?_, fun d hd hm => ?_⟩
  · subst hb; simpa using h2
  · subst hc
    cases hd : oj.dst with
    | none => rw [hd] at h3; cases h3
    | some d =>
      rw [hd] at h3
      simp at h3
      exact ⟨d, rfl, h3.1, h3.2⟩
  · subst hc
    rw [hd] at h3
    simp at h3
    rcases h3 with h3 | h3
    · rcases hm with hm | hm
      · exact absurd hm h3.1
      · exact absurd hm h3.2
    · exact h3
  · rw [hd] at h4
    simp only [Bool.or_eq_true, Bool.not_eq_true', List.contains_eq_mem, decide_eq_false_iff_not] at h4
    rcases h4 with h4 | h4
    · exact absurd hm h4
    · obtain ⟨x, hx, hx2⟩ := any_mem h4
      simp only [Bool.and_eq_true, beq_iff_eq] at hx2
      exact ⟨x, hx, hx2.1, hx2.2⟩

/-- Two steps, the first over all, the second over what it may write. -/
theorem RelS.part {Γ : Cx} {R R' : Nat → Prop} {Hm Hs H' : List HE} {W W' : World} (hs0 : RelS Γ R (Hm ++ Hs) W) (hs' : RelS ⟨W, footOf Hm, R, N⟩ R' H' W') : RelS Γ R' (H' ++ Hs) W' ∧ ∀ b, R b → W'.heap[b]? = W.heap[b]? := by
  have hS0 : ∀ b, footOf Hm b → Γ.w0.heap.size ≤ b ∨ Γ.S b := fun b ⟨e, he, hb⟩ => (hs0.own e (List.mem_append_left _ he) b hb).1
  have hnR : ∀ b, footOf Hm b → ¬ R b := fun b ⟨e, he, hb⟩ => (hs0.own e (List.mem_append_left _ he) b hb).2
  have h1lt : ∀ e ∈ Hs, ∀ b, e.foot b → b < W.heap.size := fun e he b hb => HE.ok_lt (hs0.ok e (List.mem_append_right _ he)) hb
  have h10 : ∀ e ∈ Hs, ∀ b, e.foot b → ¬ footOf Hm b := fun e he b hb ⟨f, hf, hb'⟩ => (List.pairwise_append.1 hs0.disj).2.2 f hf e he b hb' hb
  have hR : ∀ b, R b → W'.heap[b]? = W.heap[b]? := fun b hb => hs'.mods.block b (hs0.rlt b hb) fun hh => hnR b hh hb
  refine ⟨⟨Mods.then hs0.mods hs'.mods fun b hb hh => ?_, hs'.rlt, fun b hb => hs'.rsub b (hs0.rsub b hb), fun b hb => ?_, ?_, ?_, ?_⟩, hR⟩
  · rcases hS0 b hh with h | h
    · omega
    · exact h
  · rcases hs'.rnew b hb with h | h | h
    · exact hs0.rnew b h
    · exact .inr (.inl (Nat.le_trans hs0.mods.size h))
    · exact .inr (hS0 b h)
  · intro e he
    rcases List.mem_append.1 he with he | he
    · exact hs'.ok e he
    · exact HE.ok_mono hs'.rsub hR hs'.mods.size (fun b hb => hs'.mods.block b (h1lt e he b hb) (h10 e he b hb)) (hs0.ok e (List.mem_append_right _ he))
  · intro e he b hb
    rcases List.mem_append.1 he with he | he
    · obtain ⟨h2, h3⟩ := hs'.own e he b hb
      refine ⟨?_, h3⟩
      rcases h2 with h2 | h2
      · exact .inl (Nat.le_trans hs0.mods.size h2)
      · exact hS0 b h2
    · refine ⟨(hs0.own e (List.mem_append_right _ he) b hb).1, fun hr => ?_⟩
      rcases hs'.rnew b hr with h | h | h
      · exact (hs0.own e (List.mem_append_right _ he) b hb).2 h
      · have h5 := h1lt e he b hb
        exact absurd h (by simpa using h5)
      · exact h10 e he b hb h
  · rw [List.pairwise_append]
    refine ⟨hs'.disj, (List.pairwise_append.1 hs0.disj).2.1, fun e he f hf b hb hb' => ?_⟩
    rcases (hs'.own e he b hb).1 with h | h
    · have h5 := h1lt f hf b hb'
      exact absurd h (by simpa using h5)
    · exact h10 f hf b hb' h

/-- The state on the way. -/
structure MI (P : Program) (Γ : Cx) (ops : Array Oper) (Hs : List HE) (K : Env → List HE → Prop) (ord : List (Nat × Bool)) (listed : Array Bool) (A : Act) (W : World) (pre ms : List (Nat × Bool)) (Pd : List Nat) (E : Env) (H : List HE) (R : Nat → Prop) : Prop where
  size : listed.size = ops.size
  closed : Closed ops listed
  part : ∀ i, i < ops.size → (listed.getD i false = false ↔ i ∈ Pd ∨ i ∈ ms.map Prod.fst)
  ord : ord = pre ++ ms
  pdp : ∀ i ∈ Pd, (i, false) ∈ pre
  am : AM P Γ.N ops Hs K ms E H
  pend : ∀ i ∈ Pd, ∃ o d v, ops[i]? = some o ∧ o.dst = some d ∧ d < Γ.N ∧ look E d = some v ∧ OpF P Γ.N ops o (rst E (o.looksAt ops)) Hs (Is v)
  rels : RelS Γ R (H ++ Hs) W
  defers : A.defers = []
  tmps : A.tmps.size = Γ.N
  act : ∀ t v, look E t = some v → (∀ i ∈ Pd, ∀ o, ops[i]? = some o → o.dst ≠ some t) → RelV R W v (A.eval (.tmp t))

variable {Γ : Cx} {Hs : List HE} {K : Env → List HE → Prop} {ord : List (Nat × Bool)}

/-- What reads is pending as soon as it may run. -/
theorem MI.absorb {listed : Array Bool} {A : Act} {W : World} {R : Nat → Prop} (hok : ordPairs ops (ancs ops.toList []) ord = true) : ∀ (ms pre : List (Nat × Bool)) (Pd : List Nat) (E : Env) (H : List HE), MI P Γ ops Hs K ord listed A W pre ms Pd E H R →
    ∃ pre' ms' Pd' E', MI P Γ ops Hs K ord listed A W pre' ms' Pd' E' H R ∧ (ms' = [] ∨ ∃ m r, ms' = (m, true) :: r)
  | [], pre, Pd, E, H, h => ⟨pre, [], Pd, E, h, .inl rfl⟩
  | (m, true) :: r, pre, Pd, E, H, h => ⟨pre, _, Pd, E, h, .inr ⟨m, r, rfl⟩⟩
  | (j, false) :: r, pre, Pd, E, H, h => by
    obtain ⟨o, d, v, ho, hd, hN, hop, ham⟩ := h.am
    have hord := h.ord
    have hq := ordPairs_app (pre := pre) (r := (j, false) :: r) (by rw [← hord]; exact hok)
    have hself : d ∉ o.looksAt ops := by
      have := hq.1
      rw [ordPairs] at this
      simp only [Bool.and_eq_true, ho, hd, Bool.false_or] at this
      simpa using this.1.1
    have hp : ∀ i ∈ Pd, ∀ oi, ops[i]? = some oi → d ∉ oi.looksAt ops ∧ oi.dst ≠ some d := fun i hi oi hoi => by
      have := pairOk (hq.2 _ (h.pdp i hi) (j, false) (List.mem_cons_self ..)) hoi ho
      obtain ⟨d', h1, h2, h3⟩ := this.flt rfl
      rw [hd] at h1
      cases h1
      exact ⟨h2, h3⟩
    refine MI.absorb hok r (pre ++ [(j, false)]) (j :: Pd) ((d, v) :: E) H ⟨h.size, h.closed, fun i hi => ?_, by rw [hord]; simp, fun i hi => ?_, ham, fun i hi => ?_, h.rels, h.defers, h.tmps, fun t x ht hpd => ?_⟩
    · rw [h.part i hi]
      simp only [List.map_cons, List.mem_cons]
      constructor
      · rintro (h | h | h)
        · exact .inl (.inr h)
        · exact .inl (.inl h)
        · exact .inr h
      · rintro ((h | h) | h)
        · exact .inr (.inl h)
        · exact .inl h
        · exact .inr (.inr h)
    · rcases List.mem_cons.1 hi with rfl | hi
      · simp
      · exact List.mem_append_left _ (h.pdp i hi)
    · rcases List.mem_cons.1 hi with rfl | hi
      · exact ⟨o, d, v, ho, hd, hN, look_here, by rw [rst_skip hself]; exact hop⟩
      · obtain ⟨oi, di, vi, h1, h2, h3, h4, h5⟩ := h.pend i hi
        obtain ⟨h6, h7⟩ := hp i hi oi h1
        refine ⟨oi, di, vi, h1, h2, h3, ?_, by rw [rst_skip h6]; exact h5⟩
        rw [look_skip (fun e => h7 (by rw [h2, e]))]; exact h4
    · have hne : d ≠ t := fun e => hpd j (List.mem_cons_self ..) o ho (by rw [hd, e])
      rw [look_skip hne] at ht
      exact h.act t x ht fun i hi => hpd i (List.mem_cons_of_mem _ hi)

theorem MI.reads {listed : Array Bool} {A : Act} {W : World} {R : Nat → Prop} {pre ms : List (Nat × Bool)} {Pd : List Nat} {E : Env} {H : List HE} (hok : ordPairs ops (ancs ops.toList []) ord = true) (h : MI P Γ ops Hs K ord listed A W pre ms Pd E H R)
    {i : Nat} {b : Bool} {o : Oper} (ho : ops[i]? = some o) (hdeps : ∀ e ∈ o.after, Region.binds .any e = true → listed.getD e.on false = true) (hi : (i, b) ∈ pre ∧ i ∈ Pd ∧ b = false ∨ ∃ r, ms = (i, b) :: r) : RelA Γ.N R W (rst E (o.looksAt ops)) A := by
  refine ⟨h.defers, h.tmps, fun t v ht => ?_⟩
  obtain ⟨htl, ht⟩ := look_rst ht
  refine h.act t v ht fun k hk ok hok' hdk => ?_
  have hkp := h.pdp k hk
  have hkf : listed.getD k false = false := (h.part k (Array.getElem?_eq_some_iff.1 hok').1).2 (.inl hk)
  have direct : ordPair ops (ancs ops.toList []) k false i b = true → False := fun hp => by
    obtain ⟨e, he, hb, hon⟩ := (pairOk hp hok' ho).reads t hdk htl
    have := hdeps e he hb
    rw [hon, hkf] at this; cases this
  rcases hi with ⟨hip, hiP, rfl⟩ | ⟨r, hms⟩
  · -- both ahead
    obtain ⟨p1, p2, hp12⟩ := List.append_of_mem hkp
    have hord := h.ord
    rw [hp12, List.append_assoc] at hord
    rw [hp12] at hip
    rcases List.mem_append.1 hip with hip | hip
    · -- i ahead of k
      have hq := ordPairs_app (pre := p1) (by rw [← hord]; exact hok)
      have := pairOk (hq.2 _ hip (k, false) (List.mem_cons_self ..)) ho hok'
      obtain ⟨d', h1, h2, -⟩ := this.flt rfl
      rw [hdk] at h1; cases h1
      exact h2 htl
    · rcases List.mem_cons.1 hip with he | hip
      · cases he
        -- itself
        have hq := (ordPairs_app (pre := p1) (by rw [← hord]; exact hok)).1
        rw [List.cons_append, ordPairs] at hq
        simp only [Bool.and_eq_true] at hq
        obtain rfl : o = ok := by rw [ho] at hok'; exact Option.some.inj hok'
        have := hq.1.1
        rw [ho] at this
        simp only [hdk, Bool.false_or] at this
        simp at this
        exact this htl
      · rw [show p1 ++ ((k, false) :: p2 ++ ms) = (p1 ++ [(k, false)]) ++ (p2 ++ ms) by simp] at hord
        have hq := ordPairs_app (pre := p1 ++ [(k, false)]) (by rw [← hord]; exact hok)
        exact direct (hq.2 (k, false) (by simp) (i, false) (List.mem_append_left _ hip))
  · have hq := ordPairs_app (pre := pre) (r := ms) (by rw [← h.ord]; exact hok)
    exact direct (hq.2 _ hkp (i, b) (by rw [hms]; exact List.mem_cons_self ..))

/-- What the region may write, and what not. -/
def SplitH (E : Env) (H Hm Hs : List HE) : Prop := H.Perm (Hm ++ Hs)
theorem splitNil {E : Env} {H : List HE} : SplitH E H [] H := List.Perm.refl _
theorem splitAt' (i : Nat) {E : Env} {H Hm Hs : List HE} {e : HE} (h : H[i]? = some e) (hr : SplitH E (H.eraseIdx i) Hm Hs) : SplitH E H (e :: Hm) Hs := (perm_idx h).trans (List.Perm.cons e hr)
theorem splitRow (t i : Nat) {E : Env} {H Hm Hs : List HE} {v : Value} {T sz n : Nat} {xs : List AV} (hl : look E t = some (.val v)) (h : H[i]? = some (.row v T sz n xs)) (hr : SplitH E (H.eraseIdx i) Hm Hs) : SplitH E H (.row v T sz n xs :: Hm) Hs := splitAt' i h hr
theorem splitBlk (t i : Nat) {E : Env} {H Hm Hs : List HE} {b o T room : Nat} {xs : List AV} (hl : look E t = some (.val (.pointer (some ⟨b, o, none⟩)))) (h : H[i]? = some (.blk b T room xs)) (hr : SplitH E (H.eraseIdx i) Hm Hs) : SplitH E H (.blk b T room xs :: Hm) Hs := splitAt' i h hr
theorem splitSl (t i : Nat) {E : Env} {H Hm Hs : List HE} {b o n c T room : Nat} {xs : List AV} (hl : look E t = some (.val (.slice (some ⟨b, o, none⟩) n c))) (h : H[i]? = some (.blk b T room xs)) (hr : SplitH E (H.eraseIdx i) Hm Hs) : SplitH E H (.blk b T room xs :: Hm) Hs := splitAt' i h hr

theorem AW.regionM {Q : Exit → Act → World → Prop} {E : Env} {H : List HE} {id : Nat} {l : List Oper} (ord : List (Nat × Bool)) {Hm Hs : List HE} (hm : P.follows .mixedOrders = true) (hok : ordOk l.toArray ord = true) (hH : SplitH E H Hm Hs)
    (h : AM P Γ.N l.toArray Hs (fun E' H' => AQ Γ Q .normal E' (H' ++ Hs)) ord E Hm) : AW Γ P Q (.region id l.toArray true) E H := fun R a W hs0 ha0 => by
  obtain ⟨ops, hops⟩ : ∃ ops, ops = l.toArray := ⟨_, rfl⟩
  rw [← hops] at h hok
  simp only [ordOk, Bool.and_eq_true, List.all_eq_true, List.mem_range] at hok
  obtain ⟨⟨⟨hall, hlt⟩, hbk⟩, hpairs⟩ := hok
  have hback : ∀ i o, ops[i]? = some o → ∀ e ∈ o.after, Region.binds .any e = true → e.on < i := fun i o ho e he hb => by
    have hi : i < ops.size := (Array.getElem?_eq_some_iff.1 ho).1
    have := hbk i hi
    rw [ho] at this
    simp only [Option.all_some] at this
    have := Array.all_eq_true_iff_forall_mem.1 this e he
    simpa [hb] using this
  have main : ∀ (fuel : Nat) (listed : Array Bool) (A : Act) (W : World) (pre ms : List (Nat × Bool)) (Pd : List Nat) (E : Env) (H : List HE) (R : Nat → Prop), fuel = listed.toList.count false →
      MI P Γ ops Hs (fun E' H' => AQ Γ Q .normal E' (H' ++ Hs)) ord listed A W pre ms Pd E H R → (ms = [] ∨ ∃ m r, ms = (m, true) :: r) → wpAny P .any ops Q fuel listed A W := by
    intro fuel
    induction fuel with
    | zero =>
      intro listed A W pre ms Pd E H R hc hI hhd
      have hlist : ∀ i, i < ops.size → listed.getD i false = true := by
        intro i hi
        have hi' : i < listed.size := by rw [hI.size]; exact hi
        cases hb : listed.getD i false with
        | true => rfl
        | false =>
          exfalso
          have hm : false ∈ listed.toList := by
            rw [← hb]; simp [Array.getD, hi']
          have := List.count_pos_iff.2 hm
          omega
      have hin : ∀ i b, (i, b) ∈ ord → i < ops.size := fun i b hib => by have := hlt _ hib; simpa using this
      have hms : ms = [] := by
        rcases hhd with h | ⟨m, r, h⟩
        · exact h
        · have h1 := hin m true (by rw [hI.ord, h]; simp)
          have := (hI.part m h1).2 (.inr (by rw [h]; simp))
          rw [hlist m h1] at this; cases this
      have hPd : Pd = [] := by
        rw [List.eq_nil_iff_forall_not_mem]
        intro i hi
        have h1 := hin i false (by rw [hI.ord]; exact List.mem_append_left _ (hI.pdp i hi))
        have := (hI.part i h1).2 (.inl hi)
        rw [hlist i h1] at this; cases this
      subst hms
      subst hPd
      refine ⟨?_, hI.am R A W hI.rels ⟨hI.defers, hI.tmps, fun t v ht => hI.act t v ht fun i hi => (by cases hi)⟩⟩
      rw [List.eq_nil_iff_forall_not_mem]
      intro i hi
      obtain ⟨h0, o, ho, _⟩ := mem_ready.1 hi
      have hi' : i < ops.size := (Array.getElem?_eq_some_iff.1 ho).1
      have := hlist i hi'
      rw [← getD_tf (by rw [hI.size]; exact hi')] at this
      rw [this] at h0; cases h0
    | succ fuel ih =>
      intro listed A W pre ms Pd E H R hc hI hhd
      have hne : ∃ i, i ∈ Region.ready .any ops listed := by
        have hex : ∃ i, i < ops.size ∧ listed.getD i false = false := by
          have hpos : 0 < listed.toList.count false := by omega
          obtain ⟨i, hi, hf⟩ := List.getElem_of_mem (List.count_pos_iff.1 hpos)
          have hi' : i < listed.size := by simpa using hi
          exact ⟨i, by rw [← hI.size]; exact hi', by simpa [Array.getD, hi'] using hf⟩
        obtain ⟨i, ⟨hi, hf⟩, hmin⟩ : ∃ i, (i < ops.size ∧ listed.getD i false = false) ∧ ∀ j, j < i → ¬ (j < ops.size ∧ listed.getD j false = false) := by
          obtain ⟨i, h⟩ := hex
          exact least ⟨i, h⟩
        have hio : ops[i]? = some ops[i] := by simp [hi]
        refine ⟨i, mem_ready.2 ⟨by rw [getD_tf (by rw [hI.size]; exact hi)]; exact hf, _, hio, fun e he hb => ?_⟩⟩
        have := hback i _ hio e he hb
        cases hb2 : listed.getD e.on false with
        | true => rfl
        | false => exact absurd ⟨by omega, hb2⟩ (hmin e.on this)
      refine ⟨fun e => (by obtain ⟨i, hi⟩ := hne; rw [e] at hi; cases hi), fun i hi => ?_⟩
      obtain ⟨h0, o, ho, hdeps⟩ := mem_ready.1 hi
      have hio : i < ops.size := (Array.getElem?_eq_some_iff.1 ho).1
      have hf : listed.getD i false = false := by rw [← getD_tf (by rw [hI.size]; exact hio)]; exact h0
      have hil : i < listed.size := by rw [hI.size]; exact hio
      have hanc : ∀ j, j ∈ (ancs ops.toList []).getD i [] → listed.getD j false = true := fun j hj => anc_listed hI.closed hback i o ho hdeps j hj
      have hcl := closed_set hI.closed ho hil hdeps
      have hcnt : fuel = (listed.setIfInBounds i true).toList.count false := by
        have hcs := count_set_true listed.toList i (by simpa using hil) (by simpa [Array.getD, hil] using hf)
        simp only [Array.toList_setIfInBounds]
        omega
      have hgd : ∀ k, k ≠ i → (listed.setIfInBounds i true).getD k false = listed.getD k false := fun k hk => getD_set_ne false (Ne.symm hk)
      have hgi : (listed.setIfInBounds i true).getD i false = true := by simp [Array.getD, hil]
      have hsz : (listed.setIfInBounds i true).size = ops.size := by simpa using hI.size
      rcases (hI.part i hio).1 hf with hPd | hms
      · -- one that reads
        obtain ⟨o', d, v, ho', hd, hN, hlk, hop⟩ := hI.pend i hPd
        obtain rfl : o = o' := by rw [ho] at ho'; exact Option.some.inj ho'
        have hA := hI.reads hpairs ho hdeps (b := false) (.inl ⟨hI.pdp i hPd, hPd, rfl⟩)
        have hs := hop R A W hI.rels.rlt (fun e he => hI.rels.ok e (List.mem_append_right _ he)) (fun e he b hb => (hI.rels.own e (List.mem_append_right _ he) b hb).2) hA
        have hnext : ∀ u W', (∃ v' Hn R', Is v v' Hn ∧ Post1 R W v' Hn u W' R') → wpAny P .any ops Q fuel (listed.setIfInBounds i true) (A.put o.dst u) W' := by
          rintro u W' ⟨v', Hn, R', ⟨rfl, rfl⟩, hp⟩
          have hnm : i ∉ ms.map Prod.fst := fun hm => by
            obtain ⟨⟨j, c⟩, hq, hji⟩ := List.mem_map.1 hm
            have hq2 := (ordPairs_app (pre := pre) (r := ms) (by rw [← hI.ord]; exact hpairs)).2 _ (hI.pdp i hPd) _ hq
            simp only at hji
            subst hji
            exact (pairOk hq2 ho ho).ne rfl
          refine ih _ _ _ pre ms (Pd.filter (· ≠ i)) E H R' hcnt ⟨hsz, hcl, fun k hk => ?_, hI.ord, fun k hk => hI.pdp k (List.mem_filter.1 hk).1, hI.am, fun k hk => hI.pend k (List.mem_filter.1 hk).1, by simpa using hI.rels.step hp, ?_, ?_, fun t x ht hpd => ?_⟩ hhd
          · by_cases hki : k = i
            · subst hki
              rw [hgi]
              simp [hnm]
            · rw [hgd k hki, hI.part k hk]
              simp [hki]
          · rw [hd]; exact hI.defers
          · rw [hd]; simp [Act.put, hI.tmps]
          · rw [hd]
            by_cases hdt : d = t
            · subst hdt
              rw [hlk] at ht
              cases ht
              rw [eval_put_same (by rw [hI.tmps]; exact hN)]; exact hp.val
            · rw [eval_put_other hdt]
              refine (hI.act t x ht fun k hk ok hok hdk => ?_).mono hp.sub (extSame hp.ext hI.rels.rlt)
              by_cases hki : k = i
              · subst hki
                rw [ho] at hok
                cases hok
                rw [hd] at hdk
                cases hdk
                exact hdt rfl
              · exact hpd k (List.mem_filter.2 ⟨hk, by simpa using hki⟩) ok hok hdk
        unfold wpOp
        rw [ho]
        unfold FStep at hs
        show if Region.wanted o (yielded ops A.tmps) = true then _ else _
        split
        · rename_i hw
          rw [if_pos hw] at hs
          refine .inl (Oper.wp_mono ?_ (wp_of_noQ hs))
          rintro A' W' ⟨u, rfl, hp⟩
          exact hnext u W' hp
        · rename_i hw
          rw [if_neg hw] at hs
          exact hnext _ _ hs
      · -- the next that writes
        rcases hhd with rfl | ⟨m, r, rfl⟩
        · cases hms
        have hmlt : m < ops.size := by have := hlt (m, true) (by rw [hI.ord]; simp); simpa using this
        have hmf : listed.getD m false = false := (hI.part m hmlt).2 (.inr (by simp))
        have him : i = m := by
          rcases List.mem_cons.1 hms with h | h
          · exact h
          · exfalso
            obtain ⟨⟨j, c⟩, hq, hji⟩ := List.mem_map.1 h
            simp only at hji
            subst hji
            have h9 := (ordPairs_app (pre := pre ++ [(m, true)]) (r := r) (by have := hI.ord; rw [List.append_assoc, List.singleton_append, ← this]; exact hpairs)).2 (m, true) (by simp) _ hq
            have hom : ops[m]? = some ops[m] := by simp [hmlt]
            have := hanc m ((pairOk h9 hom ho).main rfl)
            rw [hmf] at this; cases this
        subst him
        obtain ⟨o', ho', hAO⟩ := hI.am
        obtain rfl : o = o' := by rw [ho] at ho'; exact Option.some.inj ho'
        have hA := hI.reads hpairs ho hdeps (b := true) (.inr ⟨r, rfl⟩)
        have hs := hAO W R R A W ⟨Mods.refl _ _, hI.rels.rlt, fun _ h => h, fun _ h => .inl h, fun e he => hI.rels.ok e (List.mem_append_left _ he), fun e he b hb => ⟨.inr ⟨e, he, hb⟩, (hI.rels.own e (List.mem_append_left _ he) b hb).2⟩, (List.pairwise_append.1 hI.rels.disj).1⟩ hA
        have hnext : ∀ u W', QS ⟨W, footOf H, R, Γ.N⟩ o.dst (fun v H' => AM P Γ.N ops Hs (fun E' H' => AQ Γ Q .normal E' (H' ++ Hs)) r (putE o.dst v E) H') .normal (A.put o.dst u) W' → wpAny P .any ops Q fuel (listed.setIfInBounds i true) (A.put o.dst u) W' := by
          rintro u W' ⟨hdf, v, H', R', ham, hsr, hvr⟩
          obtain ⟨hrel, hRW⟩ := RelS.part hI.rels hsr
          have hpd : ∀ k ∈ Pd, ∀ ok, ops[k]? = some ok → ∀ d, o.dst = some d → d ∉ ok.looksAt ops ∧ ok.dst ≠ some d := fun k hk ok hok d hd => by
            have h9 := (ordPairs_app (pre := pre) (r := (i, true) :: r) (by rw [← hI.ord]; exact hpairs)).2 _ (hI.pdp k hk) (i, true) (List.mem_cons_self ..)
            have hkf : listed.getD k false = false := (hI.part k (Array.getElem?_eq_some_iff.1 hok).1).2 (.inl hk)
            have hno : k ∉ (ancs ops.toList []).getD i [] := fun hm => by
              have := hanc k hm
              rw [hkf] at this; cases this
            exact ⟨fun hm => hno ((pairOk h9 hok ho).mn rfl d hd (.inl hm)), fun he => hno ((pairOk h9 hok ho).mn rfl d hd (.inr he))⟩
          have hnr : i ∉ r.map Prod.fst := fun hm => by
            obtain ⟨⟨j, c⟩, hq, hji⟩ := List.mem_map.1 hm
            have h9 := (ordPairs_app (pre := pre ++ [(i, true)]) (r := r) (by have := hI.ord; rw [List.append_assoc, List.singleton_append, ← this]; exact hpairs)).2 (i, true) (by simp) _ hq
            simp only at hji
            subst hji
            exact (pairOk h9 ho ho).ne rfl
          have hnp : i ∉ Pd := fun hk => by
            have h9 := (ordPairs_app (pre := pre) (r := (i, true) :: r) (by rw [← hI.ord]; exact hpairs)).2 _ (hI.pdp i hk) (i, true) (List.mem_cons_self ..)
            exact (pairOk h9 ho ho).ne rfl
          have hI' : MI P Γ ops Hs (fun E' H' => AQ Γ Q .normal E' (H' ++ Hs)) ord (listed.setIfInBounds i true) (A.put o.dst u) W' (pre ++ [(i, true)]) r Pd (putE o.dst v E) H' R' := by
            refine ⟨hsz, hcl, fun k hk => ?_, by rw [hI.ord]; simp, fun k hk => List.mem_append_left _ (hI.pdp k hk), ham, fun k hk => ?_, hrel, hdf, ?_, fun t x ht hp => ?_⟩
            · by_cases hki : k = i
              · subst hki
                rw [hgi]
                simp [hnr, hnp]
              · rw [hgd k hki, hI.part k hk]
                simp [hki]
            · obtain ⟨ok, dk, vk, h1, h2, h3, h4, h5⟩ := hI.pend k hk
              refine ⟨ok, dk, vk, h1, h2, h3, ?_, ?_⟩
              · cases hd : o.dst with
                | none => exact h4
                | some d => rw [putE, look_skip (fun e => (hpd k hk ok h1 d hd).2 (by rw [h2, e]))]; exact h4
              · cases hd : o.dst with
                | none => exact h5
                | some d => rw [putE, rst_skip (hpd k hk ok h1 d hd).1]; exact h5
            · cases hd : o.dst <;> simp [Act.put, hI.tmps]
            · cases hd : o.dst with
              | none =>
                rw [hd] at ht
                exact (hI.act t x ht hp).mono hsr.rsub hRW
              | some d =>
                rw [hd, putE] at ht
                by_cases hdt : d = t
                · subst hdt
                  rw [look_here] at ht
                  cases ht
                  have := hvr d hd
                  rwa [hd] at this
                · rw [look_skip hdt] at ht
                  rw [eval_put_other hdt]
                  exact (hI.act t x ht hp).mono hsr.rsub hRW
          obtain ⟨pre', ms', Pd', E', hI2, hh2⟩ := hI'.absorb hpairs
          exact ih _ _ _ pre' ms' Pd' E' H' R' hcnt hI2 hh2
        unfold wpOp
        rw [ho]
        unfold wpList at hs
        show if Region.wanted o (yielded ops A.tmps) = true then _ else _
        split
        · rename_i hw
          rw [if_pos hw] at hs
          refine .inl ?_
          rcases hs with hs | ⟨-, a', w', hl⟩
          · have hs2 : o.wp P A W (wpList P ops (QS ⟨W, footOf H, R, Γ.N⟩ o.dst (fun v H' => AM P Γ.N ops Hs (fun E' H' => AQ Γ Q .normal E' (H' ++ Hs)) r (putE o.dst v E) H')) []) NoQ := by
              unfold Oper.wp at hs ⊢
              revert hs
              cases (execOp A.eval o).run P W with
              | ok n w' =>
                cases n with
                | enter f args =>
                  intro hs
                  refine Calls.mono hs ?_
                  intro e w'' he
                  cases e with
                  | returned v => exact he
                  | outgrown => obtain ⟨a', w', hl⟩ := he; exact hl.elim
                  | _ => exact he.elim
                | _ => exact fun h => h
              | halt x w' => cases x <;> exact fun h => h
            refine Oper.wp_mono ?_ (wp_of_noQ (Oper.wp_put hs2))
            rintro A' W' ⟨hq, hA'⟩
            have hq' : QS ⟨W, footOf H, R, Γ.N⟩ o.dst (fun v H' => AM P Γ.N ops Hs (fun E' H' => AQ Γ Q .normal E' (H' ++ Hs)) r (putE o.dst v E) H') .normal A' W' := hq
            rcases hA' with ⟨u, rfl⟩ | hnd
            · exact hnext u W' hq'
            · exact absurd hq'.1 hnd
          · exact hl.elim
        · rename_i hw
          rw [if_neg hw] at hs
          exact hnext _ _ hs
  have hs : RelS Γ R (Hm ++ Hs) W.drew := (RelS.perm ⟨hs0.mods.drew, hs0.rlt, hs0.rsub, hs0.rnew, fun e he => HE.ok_mono (W := W) (W' := W.drew) (fun _ h => h) (fun _ _ => rfl) (Nat.le_refl _) (fun _ _ => rfl) (hs0.ok e he), hs0.own, hs0.disj⟩ hH.symm)
  have ha : RelA Γ.N R W.drew E a := ha0.mono (fun _ h => h) (fun _ _ => rfl)
  refine wp_region_any hm ?_
  rw [← hops]
  have hI : MI P Γ ops Hs (fun E' H' => AQ Γ Q .normal E' (H' ++ Hs)) ord (Array.replicate ops.size false) a W.drew [] ord [] E Hm R := by
    refine ⟨by simp, fun i o hl => ?_, fun i hi => ?_, rfl, fun i hi => (by cases hi), h, fun i hi => (by cases hi), hs, ha.defers, ha.size, fun t v ht _ => ha.slots t v ht⟩
    · exfalso
      by_cases h : i < ops.size <;> simp [Array.getD, h] at hl
    · have := hall i hi
      simp only [List.contains_eq_mem, decide_eq_true_eq] at this
      simp [Array.getD, hi, this]
  obtain ⟨pre', ms', Pd', E', hI2, hh2⟩ := hI.absorb hpairs
  exact main _ _ _ _ pre' ms' Pd' E' Hm R (by simp) hI2 hh2

/-! One operation. -/
theorem AM.op {i d : Nat} {r : List (Nat × Bool)} {E : Env} {H : List HE} {o : Oper} {v : AV} (ho : ops[i]? = some o) (h : OpW P N o (rst E (o.looksAt ops)) Hs (Is v)) (hw : wantedIs ops (rst E (o.looksAt ops)) o = some true) (hd : o.dst = some d) (hN : Nat.ble (d + 1) N = true) (k : AM P N ops Hs K r ((d, v) :: E) H) :
    AM P N ops Hs K ((i, false) :: r) E H := ⟨o, d, v, ho, hd, Nat.le_of_ble_eq_true hN, .run hw h, k⟩
theorem AM.opG {i d : Nat} {r : List (Nat × Bool)} {E : Env} {H : List HE} {o : Oper} {c : Bool} {v : AV} (ho : ops[i]? = some o) (hw : guardIs ops (rst E (o.looksAt ops)) o = some c) (hd : o.dst = some d) (hN : Nat.ble (d + 1) N = true) (h : c = true → OpW P N o (rst E (o.looksAt ops)) Hs (Is v)) (k : AM P N ops Hs K r ((d, .opt c v) :: E) H) :
    AM P N ops Hs K ((i, false) :: r) E H := ⟨o, d, _, ho, hd, Nat.le_of_ble_eq_true hN, .opt hw h, k⟩
theorem AM.no {i d : Nat} {r : List (Nat × Bool)} {E : Env} {H : List HE} {o : Oper} (ho : ops[i]? = some o) (hw : wantedIs ops (rst E (o.looksAt ops)) o = some false) (hd : o.dst = some d) (hN : Nat.ble (d + 1) N = true) (k : AM P N ops Hs K r ((d, .val undef) :: E) H) :
    AM P N ops Hs K ((i, false) :: r) E H := ⟨o, d, _, ho, hd, Nat.le_of_ble_eq_true hN, .no hw, k⟩
theorem AM.main {i : Nat} {r : List (Nat × Bool)} {E : Env} {H : List HE} (o : Oper) (ho : ops[i]? = some o) (h : ∀ w0 R0, AO ⟨w0, footOf H, R0, N⟩ P ops (QS ⟨w0, footOf H, R0, N⟩ o.dst (fun v H' => AM P N ops Hs K r (putE o.dst v E) H')) [o] (rst E (o.looksAt ops)) H) :
    AM P N ops Hs K ((i, true) :: r) E H := ⟨o, ho, h⟩
theorem AM.ok {w0 : World} {S0 R0 : Nat → Prop} {d : Nat} {v : AV} {S : AV → List HE → Prop} {E1 : Env} {H' : List HE} (h : S v H') : AO ⟨w0, S0, R0, N⟩ P ops (QS ⟨w0, S0, R0, N⟩ (some d) S) [] ((d, v) :: E1) H' := fun R a W hs ha =>
  ⟨ha.defers, v, H', R, h, hs, fun t ht => by cases ht; exact ha.slots d v look_here⟩
theorem AM.okN {w0 : World} {S0 R0 : Nat → Prop} {S : AV → List HE → Prop} {E1 : Env} {H' : List HE} (h : S (.val undef) H') : AO ⟨w0, S0, R0, N⟩ P ops (QS ⟨w0, S0, R0, N⟩ none S) [] E1 H' := fun R a W hs ha =>
  ⟨ha.defers, _, H', R, h, hs, fun t ht => by cases ht⟩
theorem AM.nil {E : Env} {H : List HE} (h : K E H) : AM P N ops Hs K [] E H := h
end
end Go.Proofs.Ytiddmpmpjdnmeaa.A
