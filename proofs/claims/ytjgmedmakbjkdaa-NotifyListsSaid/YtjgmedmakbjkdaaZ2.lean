/-
  Texts laid together (part 2): what the statement's walk and plain law need. No condition.
-/
import Derived.Lib.EndianBits
import Derived.Test.YtjgmedmakbjkdaaZ1
namespace Go.Proofs.Ytjgmedmakbjkdaa.A
open Go.RowKit L
set_option linter.unusedVariables false
set_option linter.unusedSimpArgs false

section
variable {P : Program} {ops : Array Oper} {N : Nat}

/-- What an operation leaves, its temporary told apart. -/
theorem Oper.wp_put {o : Oper} {a : Act} {w : World} {K : Act → World → Prop} {Q : Exit → Act → World → Prop} (h : o.wp P a w K Q) : o.wp P a w (fun A' W' => K A' W' ∧ ((∃ u, A' = a.put o.dst u) ∨ A'.defers ≠ [])) Q := by
  unfold Oper.wp at h ⊢
  cases hr : (execOp a.eval o).run P w with
  | ok n w' =>
    rw [hr] at h
    cases n with
    | value v => exact ⟨h, .inl ⟨v, rfl⟩⟩
    | skip => exact ⟨h, .inl ⟨_, rfl⟩⟩
    | defer d => exact ⟨h, .inr (by simp [Act.put]; split <;> simp)⟩
    | enter f args =>
      refine Calls.mono h ?_
      intro e w'' he
      cases e with
      | returned v => exact ⟨he, .inl ⟨v, rfl⟩⟩
      | _ => exact he
    | row r args =>
      refine Rows.mono h ?_
      intro v w'' he
      exact ⟨he, .inl ⟨v, rfl⟩⟩
    | _ => exact h
  | halt x w' =>
    rw [hr] at h
    cases x <;> exact h

theorem rst_skip {E : Env} {d : Nat} {v : AV} : ∀ {ts : List Nat}, d ∉ ts → rst ((d, v) :: E) ts = rst E ts
  | [], _ => rfl
  | t :: r, h => by
    simp only [List.mem_cons, not_or] at h
    have hb : Nat.beq d t = false := by
      cases hb : Nat.beq d t with
      | false => rfl
      | true => exact absurd (Nat.eq_of_beq_eq_true hb) h.1
    have hl : look ((d, v) :: E) t = look E t := by simp only [look, hb]; rfl
    rw [rst, rst, hl, rst_skip h.2]
theorem look_skip {E : Env} {d t : Nat} {v : AV} (h : d ≠ t) : look ((d, v) :: E) t = look E t := by
  have hb : Nat.beq d t = false := by
    cases hb : Nat.beq d t with
    | false => rfl
    | true => exact absurd (Nat.eq_of_beq_eq_true hb) h
  simp only [look, hb]; rfl
theorem look_here {E : Env} {d : Nat} {v : AV} : look ((d, v) :: E) d = some v := by simp [look]

/-- What a writing operation leaves. -/
def QS (Γ : Cx) (d : Option Nat) (S : AV → List HE → Prop) : Exit → Act → World → Prop := fun x a W =>
  match x with
  | .normal => a.defers = [] ∧ ∃ v H' R', S v H' ∧ RelS Γ R' H' W ∧ ∀ t, d = some t → RelV R' W v (a.eval (.tmp t))
  | _ => False
def putE : Option Nat → AV → Env → Env
  | some d, v, E => (d, v) :: E
  | none, _, E => E

/-- Operations in this order: true those that write, false those that read. -/
def AM (P : Program) (N : Nat) (ops : Array Oper) (Hs : List HE) (K : Env → List HE → Prop) : List (Nat × Bool) → Env → List HE → Prop
  | [], E, H => K E H
  | (i, true) :: r, E, H => ∃ o, ops[i]? = some o ∧ ∀ w0 R0, AO ⟨w0, footOf H, R0, N⟩ P ops (QS ⟨w0, footOf H, R0, N⟩ o.dst (fun v H' => AM P N ops Hs K r (putE o.dst v E) H')) [o] (rst E (o.looksAt ops)) H
  | (i, false) :: r, E, H => ∃ o d v, ops[i]? = some o ∧ o.dst = some d ∧ d < N ∧ OpF P N ops o (rst E (o.looksAt ops)) Hs (Is v) ∧ AM P N ops Hs K r ((d, v) :: E) H

/-- One operation ahead of another. -/
def ordPair (ops : Array Oper) (an : List (List Nat)) (i : Nat) (b : Bool) (j : Nat) (c : Bool) : Bool :=
  match ops[i]?, ops[j]? with
  | some oi, some oj =>
    let waits := oj.after.any fun e => Region.binds .any e && e.on == i
    let anc := (an.getD j []).contains i
    (i != j) && (!b || anc) &&
    (match oj.dst with
      | some d => if c then (!((oi.looksAt ops).contains d || oi.dst == some d)) || anc else !(oi.looksAt ops).contains d && oi.dst != some d
      | none => c) &&
    (match oi.dst with
      | some d => !(oj.looksAt ops).contains d || waits
      | none => true)
  | _, _ => false
def ordPairs (ops : Array Oper) (an : List (List Nat)) : List (Nat × Bool) → Bool
  | [] => true
  | (i, b) :: r => (b || (match ops[i]? with | some o => (match o.dst with | some d => !(o.looksAt ops).contains d | none => false) | none => false)) && r.all (fun q => ordPair ops an i b q.1 q.2) && ordPairs ops an r
def ordOk (ops : Array Oper) (ord : List (Nat × Bool)) : Bool :=
  ((List.range ops.size).all fun i => (ord.map Prod.fst).contains i) && (ord.all fun q => decide (q.1 < ops.size)) &&
  ((List.range ops.size).all fun i => (ops[i]?).all fun o => o.after.all fun e => !Region.binds .any e || decide (e.on < i)) && ordPairs ops (ancs ops.toList []) ord

theorem ordPairs_app {an : List (List Nat)} : ∀ {pre r : List (Nat × Bool)}, ordPairs ops an (pre ++ r) = true → ordPairs ops an r = true ∧ ∀ q ∈ pre, ∀ s ∈ r, ordPair ops an q.1 q.2 s.1 s.2 = true
  | [], r, h => ⟨h, fun q hq => by cases hq⟩
  | (i, b) :: pre, r, h => by
    rw [List.cons_append, ordPairs] at h
    simp only [Bool.and_eq_true, List.all_eq_true] at h
    obtain ⟨h1, h2⟩ := ordPairs_app h.2
    refine ⟨h1, fun q hq s hs => ?_⟩
    rcases List.mem_cons.1 hq with rfl | hq
    · exact h.1.2 s (List.mem_append_right _ hs)
    · exact h2 q hq s hs

structure PairOk (ops : Array Oper) (an : List (List Nat)) (i : Nat) (b : Bool) (oi : Oper) (j : Nat) (c : Bool) (oj : Oper) : Prop where
  ne : i ≠ j
  main : b = true → i ∈ an.getD j []
  flt : c = false → ∃ d, oj.dst = some d ∧ d ∉ oi.looksAt ops ∧ oi.dst ≠ some d
  mn : c = true → ∀ d, oj.dst = some d → (d ∈ oi.looksAt ops ∨ oi.dst = some d) → i ∈ an.getD j []
  reads : ∀ d, oi.dst = some d → d ∈ oj.looksAt ops → ∃ e ∈ oj.after, Region.binds .any e = true ∧ e.on = i
theorem pairOk {an : List (List Nat)} {i j : Nat} {b c : Bool} {oi oj : Oper} (h : ordPair ops an i b j c = true) (hi : ops[i]? = some oi) (hj : ops[j]? = some oj) : PairOk ops an i b oi j c oj := by
  unfold ordPair at h
  rw [hi, hj] at h
  simp only [Bool.and_eq_true, bne_iff_ne, ne_eq] at h
  obtain ⟨⟨⟨h1, h2⟩, h3⟩, h4⟩ := h
  refine ⟨h1, fun hb => ?_, fun hc => ?_, fun hc d hd hm => ?_, fun d hd hm => ?_⟩
  · subst hb; simpa using h2
  · subst hc
    cases hd : oj.dst with
    | none => rw [hd] at h3; cases h3
    | some d =>
      rw [hd] at h3
      simp at h3
      exact ⟨d, rfl, h3.1, h3.2⟩
  · subst hc
    rw [hd] at h3
    simp at h3
    rcases h3 with h3 | h3
    · rcases hm with hm | hm
      · exact absurd hm h3.1
      · exact absurd hm h3.2
    · exact h3
  · rw [hd] at h4
    simp only [Bool.or_eq_true, Bool.not_eq_true', List.contains_eq_mem, decide_eq_false_iff_not] at h4
    rcases h4 with h4 | h4
    · exact absurd hm h4
    · obtain ⟨x, hx, hx2⟩ := any_mem h4
      simp only [Bool.and_eq_true, beq_iff_eq] at hx2
      exact ⟨x, hx, hx2.1, hx2.2⟩

/-- Two steps, the first over all, the second over what it may write. -/
theorem RelS.part {Γ : Cx} {R R' : Nat → Prop} {Hm Hs H' : List HE} {W W' : World} (hs0 : RelS Γ R (Hm ++ Hs) W) (hs' : RelS ⟨W, footOf Hm, R, N⟩ R' H' W') : RelS Γ R' (H' ++ Hs) W' ∧ ∀ b, R b → W'.heap[b]? = W.heap[b]? := by
  have hS0 : ∀ b, footOf Hm b → Γ.w0.heap.size ≤ b ∨ Γ.S b := fun b ⟨e, he, hb⟩ => (hs0.own e (List.mem_append_left _ he) b hb).1
  have hnR : ∀ b, footOf Hm b → ¬ R b := fun b ⟨e, he, hb⟩ => (hs0.own e (List.mem_append_left _ he) b hb).2
  have h1lt : ∀ e ∈ Hs, ∀ b, e.foot b → b < W.heap.size := fun e he b hb => HE.ok_lt (hs0.ok e (List.mem_append_right _ he)) hb
  have h10 : ∀ e ∈ Hs, ∀ b, e.foot b → ¬ footOf Hm b := fun e he b hb ⟨f, hf, hb'⟩ => (List.pairwise_append.1 hs0.disj).2.2 f hf e he b hb' hb
  have hR : ∀ b, R b → W'.heap[b]? = W.heap[b]? := fun b hb => hs'.mods.block b (hs0.rlt b hb) fun hh => hnR b hh hb
  refine ⟨⟨Mods.then hs0.mods hs'.mods fun b hb hh => ?_, hs'.rlt, fun b hb => hs'.rsub b (hs0.rsub b hb), fun b hb => ?_, ?_, ?_, ?_⟩, hR⟩
  · rcases hS0 b hh with h | h
    · omega
    · exact h
  · rcases hs'.rnew b hb with h | h | h
    · exact hs0.rnew b h
    · exact .inr (.inl (Nat.le_trans hs0.mods.size h))
    · exact .inr (hS0 b h)
  · intro e he
    rcases List.mem_append.1 he with he | he
    · exact hs'.ok e he
    · exact HE.ok_mono hs'.rsub hR hs'.mods.size (fun b hb => hs'.mods.block b (h1lt e he b hb) (h10 e he b hb)) (hs0.ok e (List.mem_append_right _ he))
  · intro e he b hb
    rcases List.mem_append.1 he with he | he
    · obtain ⟨h2, h3⟩ := hs'.own e he b hb
      refine ⟨?_, h3⟩
      rcases h2 with h2 | h2
      · exact .inl (Nat.le_trans hs0.mods.size h2)
      · exact hS0 b h2
    · refine ⟨(hs0.own e (List.mem_append_right _ he) b hb).1, fun hr => ?_⟩
      rcases hs'.rnew b hr with h | h | h
      · exact (hs0.own e (List.mem_append_right _ he) b hb).2 h
      · have h5 := h1lt e he b hb
        exact absurd h (by simpa using h5)
      · exact h10 e he b hb h
  · rw [List.pairwise_append]
    refine ⟨hs'.disj, (List.pairwise_append.1 hs0.disj).2.1, fun e he f hf b hb hb' => ?_⟩
    rcases (hs'.own e he b hb).1 with h | h
    · have h5 := h1lt f hf b hb'
      exact absurd h (by simpa using h5)
    · exact h10 f hf b hb' h

/-- The state on the way. -/
structure MI (P : Program) (Γ : Cx) (ops : Array Oper) (Hs : List HE) (K : Env → List HE → Prop) (ord : List (Nat × Bool)) (listed : Array Bool) (A : Act) (W : World) (pre ms : List (Nat × Bool)) (Pd : List Nat) (E : Env) (H : List HE) (R : Nat → Prop) : Prop where
  size : listed.size = ops.size
  closed : Closed ops listed
  part : ∀ i, i < ops.size → (listed.getD i false = false ↔ i ∈ Pd ∨ i ∈ ms.map Prod.fst)
  ord : ord = pre ++ ms
  pdp : ∀ i ∈ Pd, (i, false) ∈ pre
  am : AM P Γ.N ops Hs K ms E H
  pend : ∀ i ∈ Pd, ∃ o d v, ops[i]? = some o ∧ o.dst = some d ∧ d < Γ.N ∧ look E d = some v ∧ OpF P Γ.N ops o (rst E (o.looksAt ops)) Hs (Is v)
  rels : RelS Γ R (H ++ Hs) W
  defers : A.defers = []
  tmps : A.tmps.size = Γ.N
  act : ∀ t v, look E t = some v → (∀ i ∈ Pd, ∀ o, ops[i]? = some o → o.dst ≠ some t) → RelV R W v (A.eval (.tmp t))

variable {Γ : Cx} {Hs : List HE} {K : Env → List HE → Prop} {ord : List (Nat × Bool)}

/-- What reads is pending as soon as it may run. -/
theorem MI.absorb {listed : Array Bool} {A : Act} {W : World} {R : Nat → Prop} (hok : ordPairs ops (ancs ops.toList []) ord = true) : ∀ (ms pre : List (Nat × Bool)) (Pd : List Nat) (E : Env) (H : List HE), MI P Γ ops Hs K ord listed A W pre ms Pd E H R →
    ∃ pre' ms' Pd' E', MI P Γ ops Hs K ord listed A W pre' ms' Pd' E' H R ∧ (ms' = [] ∨ ∃ m r, ms' = (m, true) :: r)
  | [], pre, Pd, E, H, h => ⟨pre, [], Pd, E, h, .inl rfl⟩
  | (m, true) :: r, pre, Pd, E, H, h => ⟨pre, _, Pd, E, h, .inr ⟨m, r, rfl⟩⟩
  | (j, false) :: r, pre, Pd, E, H, h => by
    obtain ⟨o, d, v, ho, hd, hN, hop, ham⟩ := h.am
    have hord := h.ord
    have hq := ordPairs_app (pre := pre) (r := (j, false) :: r) (by rw [← hord]; exact hok)
    have hself : d ∉ o.looksAt ops := by
      have := hq.1
      rw [ordPairs] at this
      simp only [Bool.and_eq_true, ho, hd, Bool.false_or] at this
      simpa using this.1.1
    have hp : ∀ i ∈ Pd, ∀ oi, ops[i]? = some oi → d ∉ oi.looksAt ops ∧ oi.dst ≠ some d := fun i hi oi hoi => by
      have := pairOk (hq.2 _ (h.pdp i hi) (j, false) (List.mem_cons_self ..)) hoi ho
      obtain ⟨d', h1, h2, h3⟩ := this.flt rfl
      rw [hd] at h1
      cases h1
      exact ⟨h2, h3⟩
    refine MI.absorb hok r (pre ++ [(j, false)]) (j :: Pd) ((d, v) :: E) H ⟨h.size, h.closed, fun i hi => ?_, by rw [hord]; simp, fun i hi => ?_, ham, fun i hi => ?_, h.rels, h.defers, h.tmps, fun t x ht hpd => ?_⟩
    · rw [h.part i hi]
      simp only [List.map_cons, List.mem_cons]
      constructor
      · rintro (h | h | h)
        · exact .inl (.inr h)
        · exact .inl (.inl h)
        · exact .inr h
      · rintro ((h | h) | h)
        · exact .inr (.inl h)
        · exact .inl h
        · exact .inr (.inr h)
    · rcases List.mem_cons.1 hi with rfl | hi
      · simp
      · exact List.mem_append_left _ (h.pdp i hi)
    · rcases List.mem_cons.1 hi with rfl | hi
      · exact ⟨o, d, v, ho, hd, hN, look_here, by rw [rst_skip hself]; exact hop⟩
      · obtain ⟨oi, di, vi, h1, h2, h3, h4, h5⟩ := h.pend i hi
        obtain ⟨h6, h7⟩ := hp i hi oi h1
        refine ⟨oi, di, vi, h1, h2, h3, ?_, by rw [rst_skip h6]; exact h5⟩
        rw [look_skip (fun e => h7 (by rw [h2, e]))]; exact h4
    · have hne : d ≠ t := fun e => hpd j (List.mem_cons_self ..) o ho (by rw [hd, e])
      rw [look_skip hne] at ht
      exact h.act t x ht fun i hi => hpd i (List.mem_cons_of_mem _ hi)

theorem MI.reads {listed : Array Bool} {A : Act} {W : World} {R : Nat → Prop} {pre ms : List (Nat × Bool)} {Pd : List Nat} {E : Env} {H : List HE} (hok : ordPairs ops (ancs ops.toList []) ord = true) (h : MI P Γ ops Hs K ord listed A W pre ms Pd E H R)
    {i : Nat} {b : Bool} {o : Oper} (ho : ops[i]? = some o) (hdeps : ∀ e ∈ o.after, Region.binds .any e = true → listed.getD e.on false = true) (hi : (i, b) ∈ pre ∧ i ∈ Pd ∧ b = false ∨ ∃ r, ms = (i, b) :: r) : RelA Γ.N R W (rst E (o.looksAt ops)) A := by
  refine ⟨h.defers, h.tmps, fun t v ht => ?_⟩
  obtain ⟨htl, ht⟩ := look_rst ht
  refine h.act t v ht fun k hk ok hok' hdk => ?_
  have hkp := h.pdp k hk
  have hkf : listed.getD k false = false := (h.part k (Array.getElem?_eq_some_iff.1 hok').1).2 (.inl hk)
  have direct : ordPair ops (ancs ops.toList []) k false i b = true → False := fun hp => by
    obtain ⟨e, he, hb, hon⟩ := (pairOk hp hok' ho).reads t hdk htl
    have := hdeps e he hb
    rw [hon, hkf] at this; cases this
  rcases hi with ⟨hip, hiP, rfl⟩ | ⟨r, hms⟩
  · -- both ahead
    obtain ⟨p1, p2, hp12⟩ := List.append_of_mem hkp
    have hord := h.ord
    rw [hp12, List.append_assoc] at hord
    rw [hp12] at hip
    rcases List.mem_append.1 hip with hip | hip
    · -- i ahead of k
      have hq := ordPairs_app (pre := p1) (by rw [← hord]; exact hok)
      have := pairOk (hq.2 _ hip (k, false) (List.mem_cons_self ..)) ho hok'
      obtain ⟨d', h1, h2, -⟩ := this.flt rfl
      rw [hdk] at h1; cases h1
      exact h2 htl
    · rcases List.mem_cons.1 hip with he | hip
      · cases he
        -- itself
        have hq := (ordPairs_app (pre := p1) (by rw [← hord]; exact hok)).1
        rw [List.cons_append, ordPairs] at hq
        simp only [Bool.and_eq_true] at hq
        obtain rfl : o = ok := by rw [ho] at hok'; exact Option.some.inj hok'
        have := hq.1.1
        rw [ho] at this
        simp only [hdk, Bool.false_or] at this
        simp at this
        exact this htl
      · rw [show p1 ++ ((k, false) :: p2 ++ ms) = (p1 ++ [(k, false)]) ++ (p2 ++ ms) by simp] at hord
        have hq := ordPairs_app (pre := p1 ++ [(k, false)]) (by rw [← hord]; exact hok)
        exact direct (hq.2 (k, false) (by simp) (i, false) (List.mem_append_left _ hip))
  · have hq := ordPairs_app (pre := pre) (r := ms) (by rw [← h.ord]; exact hok)
    exact direct (hq.2 _ hkp (i, b) (by rw [hms]; exact List.mem_cons_self ..))

/-- What the region may write, and what not. -/
def SplitH (E : Env) (H Hm Hs : List HE) : Prop := H.Perm (Hm ++ Hs)
theorem splitNil {E : Env} {H : List HE} : SplitH E H [] H := List.Perm.refl _
theorem splitAt' (i : Nat) {E : Env} {H Hm Hs : List HE} {e : HE} (h : H[i]? = some e) (hr : SplitH E (H.eraseIdx i) Hm Hs) : SplitH E H (e :: Hm) Hs := (perm_idx h).trans (List.Perm.cons e hr)
theorem splitBlk (t i : Nat) {E : Env} {H Hm Hs : List HE} {b o T room : Nat} {xs : List AV} (hl : look E t = some (.val (.pointer (some ⟨b, o, none⟩)))) (h : H[i]? = some (.blk b T room xs)) (hr : SplitH E (H.eraseIdx i) Hm Hs) : SplitH E H (.blk b T room xs :: Hm) Hs := splitAt' i h hr
theorem AW.regionM {Q : Exit → Act → World → Prop} {E : Env} {H : List HE} {id : Nat} {l : List Oper} (ord : List (Nat × Bool)) {Hm Hs : List HE} (hm : P.follows .mixedOrders = true) (hok : ordOk l.toArray ord = true) (hH : SplitH E H Hm Hs)
    (h : AM P Γ.N l.toArray Hs (fun E' H' => AQ Γ Q .normal E' (H' ++ Hs)) ord E Hm) : AW Γ P Q (.region id l.toArray true) E H := fun R a W hs0 ha0 => by
  obtain ⟨ops, hops⟩ : ∃ ops, ops = l.toArray := ⟨_, rfl⟩
  rw [← hops] at h hok
  simp only [ordOk, Bool.and_eq_true, List.all_eq_true, List.mem_range] at hok
  obtain ⟨⟨⟨hall, hlt⟩, hbk⟩, hpairs⟩ := hok
  have hback : ∀ i o, ops[i]? = some o → ∀ e ∈ o.after, Region.binds .any e = true → e.on < i := fun i o ho e he hb => by
    have hi : i < ops.size := (Array.getElem?_eq_some_iff.1 ho).1
    have := hbk i hi
    rw [ho] at this
    simp only [Option.all_some] at this
    have := Array.all_eq_true_iff_forall_mem.1 this e he
    simpa [hb] using this
  have main : ∀ (fuel : Nat) (listed : Array Bool) (A : Act) (W : World) (pre ms : List (Nat × Bool)) (Pd : List Nat) (E : Env) (H : List HE) (R : Nat → Prop), fuel = listed.toList.count false →
      MI P Γ ops Hs (fun E' H' => AQ Γ Q .normal E' (H' ++ Hs)) ord listed A W pre ms Pd E H R → (ms = [] ∨ ∃ m r, ms = (m, true) :: r) → wpAny P .any ops Q fuel listed A W := by
    intro fuel
    induction fuel with
    | zero =>
      intro listed A W pre ms Pd E H R hc hI hhd
      have hlist : ∀ i, i < ops.size → listed.getD i false = true := by
        intro i hi
        have hi' : i < listed.size := by rw [hI.size]; exact hi
        cases hb : listed.getD i false with
        | true => rfl
        | false =>
          exfalso
          have hm : false ∈ listed.toList := by
            rw [← hb]; simp [Array.getD, hi']
          have := List.count_pos_iff.2 hm
          omega
      have hin : ∀ i b, (i, b) ∈ ord → i < ops.size := fun i b hib => by have := hlt _ hib; simpa using this
      have hms : ms = [] := by
        rcases hhd with h | ⟨m, r, h⟩
        · exact h
        · have h1 := hin m true (by rw [hI.ord, h]; simp)
          have := (hI.part m h1).2 (.inr (by rw [h]; simp))
          rw [hlist m h1] at this; cases this
      have hPd : Pd = [] := by
        rw [List.eq_nil_iff_forall_not_mem]
        intro i hi
        have h1 := hin i false (by rw [hI.ord]; exact List.mem_append_left _ (hI.pdp i hi))
        have := (hI.part i h1).2 (.inl hi)
        rw [hlist i h1] at this; cases this
      subst hms
      subst hPd
      refine ⟨?_, hI.am R A W hI.rels ⟨hI.defers, hI.tmps, fun t v ht => hI.act t v ht fun i hi => (by cases hi)⟩⟩
      rw [List.eq_nil_iff_forall_not_mem]
      intro i hi
      obtain ⟨h0, o, ho, _⟩ := mem_ready.1 hi
      have hi' : i < ops.size := (Array.getElem?_eq_some_iff.1 ho).1
      have := hlist i hi'
      rw [← getD_tf (by rw [hI.size]; exact hi')] at this
      rw [this] at h0; cases h0
    | succ fuel ih =>
      intro listed A W pre ms Pd E H R hc hI hhd
      have hne : ∃ i, i ∈ Region.ready .any ops listed := by
        have hex : ∃ i, i < ops.size ∧ listed.getD i false = false := by
          have hpos : 0 < listed.toList.count false := by omega
          obtain ⟨i, hi, hf⟩ := List.getElem_of_mem (List.count_pos_iff.1 hpos)
          have hi' : i < listed.size := by simpa using hi
          exact ⟨i, by rw [← hI.size]; exact hi', by simpa [Array.getD, hi'] using hf⟩
        obtain ⟨i, ⟨hi, hf⟩, hmin⟩ : ∃ i, (i < ops.size ∧ listed.getD i false = false) ∧ ∀ j, j < i → ¬ (j < ops.size ∧ listed.getD j false = false) := by
          obtain ⟨i, h⟩ := hex
          exact least ⟨i, h⟩
        have hio : ops[i]? = some ops[i] := by simp [hi]
        refine ⟨i, mem_ready.2 ⟨by rw [getD_tf (by rw [hI.size]; exact hi)]; exact hf, _, hio, fun e he hb => ?_⟩⟩
        have := hback i _ hio e he hb
        cases hb2 : listed.getD e.on false with
        | true => rfl
        | false => exact absurd ⟨by omega, hb2⟩ (hmin e.on this)
      refine ⟨fun e => (by obtain ⟨i, hi⟩ := hne; rw [e] at hi; cases hi), fun i hi => ?_⟩
      obtain ⟨h0, o, ho, hdeps⟩ := mem_ready.1 hi
      have hio : i < ops.size := (Array.getElem?_eq_some_iff.1 ho).1
      have hf : listed.getD i false = false := by rw [← getD_tf (by rw [hI.size]; exact hio)]; exact h0
      have hil : i < listed.size := by rw [hI.size]; exact hio
      have hanc : ∀ j, j ∈ (ancs ops.toList []).getD i [] → listed.getD j false = true := fun j hj => anc_listed hI.closed hback i o ho hdeps j hj
      have hcl := closed_set hI.closed ho hil hdeps
      have hcnt : fuel = (listed.setIfInBounds i true).toList.count false := by
        have hcs := count_set_true listed.toList i (by simpa using hil) (by simpa [Array.getD, hil] using hf)
        simp only [Array.toList_setIfInBounds]
        omega
      have hgd : ∀ k, k ≠ i → (listed.setIfInBounds i true).getD k false = listed.getD k false := fun k hk => getD_set_ne false (Ne.symm hk)
      have hgi : (listed.setIfInBounds i true).getD i false = true := by simp [Array.getD, hil]
      have hsz : (listed.setIfInBounds i true).size = ops.size := by simpa using hI.size
      rcases (hI.part i hio).1 hf with hPd | hms
      · -- one that reads
        obtain ⟨o', d, v, ho', hd, hN, hlk, hop⟩ := hI.pend i hPd
        obtain rfl : o = o' := by rw [ho] at ho'; exact Option.some.inj ho'
        have hA := hI.reads hpairs ho hdeps (b := false) (.inl ⟨hI.pdp i hPd, hPd, rfl⟩)
        have hs := hop R A W hI.rels.rlt (fun e he => hI.rels.ok e (List.mem_append_right _ he)) (fun e he b hb => (hI.rels.own e (List.mem_append_right _ he) b hb).2) hA
        have hnext : ∀ u W', (∃ v' Hn R', Is v v' Hn ∧ Post1 R W v' Hn u W' R') → wpAny P .any ops Q fuel (listed.setIfInBounds i true) (A.put o.dst u) W' := by
          rintro u W' ⟨v', Hn, R', ⟨rfl, rfl⟩, hp⟩
          have hnm : i ∉ ms.map Prod.fst := fun hm => by
            obtain ⟨⟨j, c⟩, hq, hji⟩ := List.mem_map.1 hm
            have hq2 := (ordPairs_app (pre := pre) (r := ms) (by rw [← hI.ord]; exact hpairs)).2 _ (hI.pdp i hPd) _ hq
            simp only at hji
            subst hji
            exact (pairOk hq2 ho ho).ne rfl
          refine ih _ _ _ pre ms (Pd.filter (· ≠ i)) E H R' hcnt ⟨hsz, hcl, fun k hk => ?_, hI.ord, fun k hk => hI.pdp k (List.mem_filter.1 hk).1, hI.am, fun k hk => hI.pend k (List.mem_filter.1 hk).1, by simpa using hI.rels.step hp, ?_, ?_, fun t x ht hpd => ?_⟩ hhd
          · by_cases hki : k = i
            · subst hki
              rw [hgi]
              simp [hnm]
            · rw [hgd k hki, hI.part k hk]
              simp [hki]
          · rw [hd]; exact hI.defers
          · rw [hd]; simp [Act.put, hI.tmps]
          · rw [hd]
            by_cases hdt : d = t
            · subst hdt
              rw [hlk] at ht
              cases ht
              rw [eval_put_same (by rw [hI.tmps]; exact hN)]; exact hp.val
            · rw [eval_put_other hdt]
              refine (hI.act t x ht fun k hk ok hok hdk => ?_).mono hp.sub (extSame hp.ext hI.rels.rlt)
              by_cases hki : k = i
              · subst hki
                rw [ho] at hok
                cases hok
                rw [hd] at hdk
                cases hdk
                exact hdt rfl
              · exact hpd k (List.mem_filter.2 ⟨hk, by simpa using hki⟩) ok hok hdk
        unfold wpOp
        rw [ho]
        unfold FStep at hs
        show if Region.wanted o (yielded ops A.tmps) = true then _ else _
        split
        · rename_i hw
          rw [if_pos hw] at hs
          refine .inl (Oper.wp_mono ?_ (wp_of_noQ hs))
          rintro A' W' ⟨u, rfl, hp⟩
          exact hnext u W' hp
        · rename_i hw
          rw [if_neg hw] at hs
          exact hnext _ _ hs
      · -- the next that writes
        rcases hhd with rfl | ⟨m, r, rfl⟩
        · cases hms
        have hmlt : m < ops.size := by have := hlt (m, true) (by rw [hI.ord]; simp); simpa using this
        have hmf : listed.getD m false = false := (hI.part m hmlt).2 (.inr (by simp))
        have him : i = m := by
          rcases List.mem_cons.1 hms with h | h
          · exact h
          · exfalso
            obtain ⟨⟨j, c⟩, hq, hji⟩ := List.mem_map.1 h
            simp only at hji
            subst hji
            have h9 := (ordPairs_app (pre := pre ++ [(m, true)]) (r := r) (by have := hI.ord; rw [List.append_assoc, List.singleton_append, ← this]; exact hpairs)).2 (m, true) (by simp) _ hq
            have hom : ops[m]? = some ops[m] := by simp [hmlt]
            have := hanc m ((pairOk h9 hom ho).main rfl)
            rw [hmf] at this; cases this
        subst him
        obtain ⟨o', ho', hAO⟩ := hI.am
        obtain rfl : o = o' := by rw [ho] at ho'; exact Option.some.inj ho'
        have hA := hI.reads hpairs ho hdeps (b := true) (.inr ⟨r, rfl⟩)
        have hs := hAO W R R A W ⟨Mods.refl _ _, hI.rels.rlt, fun _ h => h, fun _ h => .inl h, fun e he => hI.rels.ok e (List.mem_append_left _ he), fun e he b hb => ⟨.inr ⟨e, he, hb⟩, (hI.rels.own e (List.mem_append_left _ he) b hb).2⟩, (List.pairwise_append.1 hI.rels.disj).1⟩ hA
        have hnext : ∀ u W', QS ⟨W, footOf H, R, Γ.N⟩ o.dst (fun v H' => AM P Γ.N ops Hs (fun E' H' => AQ Γ Q .normal E' (H' ++ Hs)) r (putE o.dst v E) H') .normal (A.put o.dst u) W' → wpAny P .any ops Q fuel (listed.setIfInBounds i true) (A.put o.dst u) W' := by
          rintro u W' ⟨hdf, v, H', R', ham, hsr, hvr⟩
          obtain ⟨hrel, hRW⟩ := RelS.part hI.rels hsr
          have hpd : ∀ k ∈ Pd, ∀ ok, ops[k]? = some ok → ∀ d, o.dst = some d → d ∉ ok.looksAt ops ∧ ok.dst ≠ some d := fun k hk ok hok d hd => by
            have h9 := (ordPairs_app (pre := pre) (r := (i, true) :: r) (by rw [← hI.ord]; exact hpairs)).2 _ (hI.pdp k hk) (i, true) (List.mem_cons_self ..)
            have hkf : listed.getD k false = false := (hI.part k (Array.getElem?_eq_some_iff.1 hok).1).2 (.inl hk)
            have hno : k ∉ (ancs ops.toList []).getD i [] := fun hm => by
              have := hanc k hm
              rw [hkf] at this; cases this
            exact ⟨fun hm => hno ((pairOk h9 hok ho).mn rfl d hd (.inl hm)), fun he => hno ((pairOk h9 hok ho).mn rfl d hd (.inr he))⟩
          have hnr : i ∉ r.map Prod.fst := fun hm => by
            obtain ⟨⟨j, c⟩, hq, hji⟩ := List.mem_map.1 hm
            have h9 := (ordPairs_app (pre := pre ++ [(i, true)]) (r := r) (by have := hI.ord; rw [List.append_assoc, List.singleton_append, ← this]; exact hpairs)).2 (i, true) (by simp) _ hq
            simp only at hji
            subst hji
            exact (pairOk h9 ho ho).ne rfl
          have hnp : i ∉ Pd := fun hk => by
            have h9 := (ordPairs_app (pre := pre) (r := (i, true) :: r) (by rw [← hI.ord]; exact hpairs)).2 _ (hI.pdp i hk) (i, true) (List.mem_cons_self ..)
            exact (pairOk h9 ho ho).ne rfl
          have hI' : MI P Γ ops Hs (fun E' H' => AQ Γ Q .normal E' (H' ++ Hs)) ord (listed.setIfInBounds i true) (A.put o.dst u) W' (pre ++ [(i, true)]) r Pd (putE o.dst v E) H' R' := by
            refine ⟨hsz, hcl, fun k hk => ?_, by rw [hI.ord]; simp, fun k hk => List.mem_append_left _ (hI.pdp k hk), ham, fun k hk => ?_, hrel, hdf, ?_, fun t x ht hp => ?_⟩
            · by_cases hki : k = i
              · subst hki
                rw [hgi]
                simp [hnr, hnp]
              · rw [hgd k hki, hI.part k hk]
                simp [hki]
            · obtain ⟨ok, dk, vk, h1, h2, h3, h4, h5⟩ := hI.pend k hk
              refine ⟨ok, dk, vk, h1, h2, h3, ?_, ?_⟩
              · cases hd : o.dst with
                | none => exact h4
                | some d => rw [putE, look_skip (fun e => (hpd k hk ok h1 d hd).2 (by rw [h2, e]))]; exact h4
              · cases hd : o.dst with
                | none => exact h5
                | some d => rw [putE, rst_skip (hpd k hk ok h1 d hd).1]; exact h5
            · cases hd : o.dst <;> simp [Act.put, hI.tmps]
            · cases hd : o.dst with
              | none =>
                rw [hd] at ht
                exact (hI.act t x ht hp).mono hsr.rsub hRW
              | some d =>
                rw [hd, putE] at ht
                by_cases hdt : d = t
                · subst hdt
                  rw [look_here] at ht
                  cases ht
                  have := hvr d hd
                  rwa [hd] at this
                · rw [look_skip hdt] at ht
                  rw [eval_put_other hdt]
                  exact (hI.act t x ht hp).mono hsr.rsub hRW
          obtain ⟨pre', ms', Pd', E', hI2, hh2⟩ := hI'.absorb hpairs
          exact ih _ _ _ pre' ms' Pd' E' H' R' hcnt hI2 hh2
        unfold wpOp
        rw [ho]
        unfold wpList at hs
        show if Region.wanted o (yielded ops A.tmps) = true then _ else _
        split
        · rename_i hw
          rw [if_pos hw] at hs
          refine .inl ?_
          rcases hs with hs | ⟨-, a', w', hl⟩
          · have hs2 : o.wp P A W (wpList P ops (QS ⟨W, footOf H, R, Γ.N⟩ o.dst (fun v H' => AM P Γ.N ops Hs (fun E' H' => AQ Γ Q .normal E' (H' ++ Hs)) r (putE o.dst v E) H')) []) NoQ := by
              unfold Oper.wp at hs ⊢
              revert hs
              cases (execOp A.eval o).run P W with
              | ok n w' =>
                cases n with
                | enter f args =>
                  intro hs
                  refine Calls.mono hs ?_
                  intro e w'' he
                  cases e with
                  | returned v => exact he
                  | outgrown => obtain ⟨a', w', hl⟩ := he; exact hl.elim
                  | _ => exact he.elim
                | _ => exact fun h => h
              | halt x w' => cases x <;> exact fun h => h
            refine Oper.wp_mono ?_ (wp_of_noQ (Oper.wp_put hs2))
            rintro A' W' ⟨hq, hA'⟩
            have hq' : QS ⟨W, footOf H, R, Γ.N⟩ o.dst (fun v H' => AM P Γ.N ops Hs (fun E' H' => AQ Γ Q .normal E' (H' ++ Hs)) r (putE o.dst v E) H') .normal A' W' := hq
            rcases hA' with ⟨u, rfl⟩ | hnd
            · exact hnext u W' hq'
            · exact absurd hq'.1 hnd
          · exact hl.elim
        · rename_i hw
          rw [if_neg hw] at hs
          exact hnext _ _ hs
  have hs : RelS Γ R (Hm ++ Hs) W.drew := (RelS.perm ⟨hs0.mods.drew, hs0.rlt, hs0.rsub, hs0.rnew, fun e he => HE.ok_mono (W := W) (W' := W.drew) (fun _ h => h) (fun _ _ => rfl) (Nat.le_refl _) (fun _ _ => rfl) (hs0.ok e he), hs0.own, hs0.disj⟩ hH.symm)
  have ha : RelA Γ.N R W.drew E a := ha0.mono (fun _ h => h) (fun _ _ => rfl)
  refine wp_region_any hm ?_
  rw [← hops]
  have hI : MI P Γ ops Hs (fun E' H' => AQ Γ Q .normal E' (H' ++ Hs)) ord (Array.replicate ops.size false) a W.drew [] ord [] E Hm R := by
    refine ⟨by simp, fun i o hl => ?_, fun i hi => ?_, rfl, fun i hi => (by cases hi), h, fun i hi => (by cases hi), hs, ha.defers, ha.size, fun t v ht _ => ha.slots t v ht⟩
    · exfalso
      by_cases h : i < ops.size <;> simp [Array.getD, h] at hl
    · have := hall i hi
      simp only [List.contains_eq_mem, decide_eq_true_eq] at this
      simp [Array.getD, hi, this]
  obtain ⟨pre', ms', Pd', E', hI2, hh2⟩ := hI.absorb hpairs
  exact main _ _ _ _ pre' ms' Pd' E' Hm R (by simp) hI2 hh2

/-! One operation. -/
theorem AM.op {i d : Nat} {r : List (Nat × Bool)} {E : Env} {H : List HE} {o : Oper} {v : AV} (ho : ops[i]? = some o) (h : OpW P N o (rst E (o.looksAt ops)) Hs (Is v)) (hw : wantedIs ops (rst E (o.looksAt ops)) o = some true) (hd : o.dst = some d) (hN : Nat.ble (d + 1) N = true) (k : AM P N ops Hs K r ((d, v) :: E) H) :
    AM P N ops Hs K ((i, false) :: r) E H := ⟨o, d, v, ho, hd, Nat.le_of_ble_eq_true hN, .run hw h, k⟩
theorem AM.opG {i d : Nat} {r : List (Nat × Bool)} {E : Env} {H : List HE} {o : Oper} {c : Bool} {v : AV} (ho : ops[i]? = some o) (hw : guardIs ops (rst E (o.looksAt ops)) o = some c) (hd : o.dst = some d) (hN : Nat.ble (d + 1) N = true) (h : c = true → OpW P N o (rst E (o.looksAt ops)) Hs (Is v)) (k : AM P N ops Hs K r ((d, .opt c v) :: E) H) :
    AM P N ops Hs K ((i, false) :: r) E H := ⟨o, d, _, ho, hd, Nat.le_of_ble_eq_true hN, .opt hw h, k⟩
theorem AM.no {i d : Nat} {r : List (Nat × Bool)} {E : Env} {H : List HE} {o : Oper} (ho : ops[i]? = some o) (hw : wantedIs ops (rst E (o.looksAt ops)) o = some false) (hd : o.dst = some d) (hN : Nat.ble (d + 1) N = true) (k : AM P N ops Hs K r ((d, .val undef) :: E) H) :
    AM P N ops Hs K ((i, false) :: r) E H := ⟨o, d, _, ho, hd, Nat.le_of_ble_eq_true hN, .no hw, k⟩
theorem AM.main {i : Nat} {r : List (Nat × Bool)} {E : Env} {H : List HE} (o : Oper) (ho : ops[i]? = some o) (h : ∀ w0 R0, AO ⟨w0, footOf H, R0, N⟩ P ops (QS ⟨w0, footOf H, R0, N⟩ o.dst (fun v H' => AM P N ops Hs K r (putE o.dst v E) H')) [o] (rst E (o.looksAt ops)) H) :
    AM P N ops Hs K ((i, true) :: r) E H := ⟨o, ho, h⟩
theorem AM.ok {w0 : World} {S0 R0 : Nat → Prop} {d : Nat} {v : AV} {S : AV → List HE → Prop} {E1 : Env} {H' : List HE} (h : S v H') : AO ⟨w0, S0, R0, N⟩ P ops (QS ⟨w0, S0, R0, N⟩ (some d) S) [] ((d, v) :: E1) H' := fun R a W hs ha =>
  ⟨ha.defers, v, H', R, h, hs, fun t ht => by cases ht; exact ha.slots d v look_here⟩
theorem AM.nil {E : Env} {H : List HE} (h : K E H) : AM P N ops Hs K [] E H := h
end
end Go.Proofs.Ytjgmedmakbjkdaa.A

namespace Go.Proofs.Ytjgmedmakbjkdaa.A
open Go.RowKit L
set_option linter.unusedVariables false
set_option linter.unusedSimpArgs false
section
variable {x y q m : Int}
end
section
variable {Γ : Cx} {P : Program} {E : Env} {H : List HE} {N : Nat} {o : Oper}
end
end Go.Proofs.Ytjgmedmakbjkdaa.A

namespace Go.Proofs.Ytjgmedmakbjkdaa.A
open Go.RowKit L
set_option linter.unusedVariables false
set_option linter.unusedSimpArgs false
section
variable {Γ : Cx} {P : Program} {Q : Exit → Act → World → Prop} {E : Env} {H : List HE}
/-- Where the two ways meet. -/
def Mid (Γ : Cx) (Q : Exit → Act → World → Prop) (φ : Prop) (E1 : Env) (H1 : List HE) : Exit → Act → World → Prop := Exit.then (fun a W => φ ∧ ∃ R, RelS Γ R H1 W ∧ RelA Γ.N R W E1 a) Q
/-- Where the two ways meet, told by a relation. -/
def MidI (Γ : Cx) (Q : Exit → Act → World → Prop) (K : Env) (I : Env → List HE → Prop) : Exit → Act → World → Prop := Exit.then (fun a W => ∃ E1 H1 R, I E1 H1 ∧ RelS Γ R H1 W ∧ RelA Γ.N R W (E1 ++ K) a) Q
/-- Results out of a box, in other words: nil reads as nothing. -/
theorem FnQ.coe {Γ : Cx} {P : Program} {fn : Func} {Post : AV → List HE → Prop} {E : Env} {H : List HE} {r r' : AV} {H' : List HE} (h : AQ Γ (FnQ Γ P fn (fun q K => q = r ∧ K = H')) .ret E H) (hc : Coe r r') (hp : Post r' H') : AQ Γ (FnQ Γ P fn Post) .ret E H := fun R a W hs ha => by
  have := h R a W hs ha
  unfold FnQ at this ⊢
  obtain ⟨hd, v, hv, u, q, K, R', he, ⟨rfl, rfl⟩, h1, h2⟩ := this
  exact ⟨hd, v, hv, u, _, _, R', he, hp, h1, hc R' W u h2⟩
theorem Coe.tup {x y : List AV} (h : CoeL x y) : Coe (.tup x) (.tup y) := fun R W u hu => by
  obtain ⟨us, rfl, h1⟩ := hu.tup_inv
  exact (h R W us h1).toTup
end
end Go.Proofs.Ytjgmedmakbjkdaa.A

namespace Go.Proofs.Ytjgmedmakbjkdaa.Dk
open Go.RowKit L A
set_option linter.unusedVariables false
set_option linter.unusedSimpArgs false
attribute [local irreducible] AW AQ AO

theorem mod_fn (v n : Int) (h1 : 0 < n) (h2 : n ≤ 4611686018427387904) : Sp Try.prog 39 [.val (.int .i64 v), .val (.int .i64 n)] [] (Is (.val (.int .i64 (v % n)))) := by
  have hf := tmod_fix2 v n h1
  have hlt : v.tmod n < n := Int.tmod_lt_of_pos v h1
  have hge : -n < v.tmod n := by
    rcases Int.le_total 0 v with hv | hv
    · have := Int.tmod_nonneg n hv; omega
    · have := Int.lt_tmod_of_pos v h1; omega
  refine Sp.enter Try.func39 rfl _ Try.ntmps39 rfl (fun w0 R0 => ?_)
  refine AW.seq ?_
  refine AW.region ?_
  refine AO.op (O.assign rfl rfl) rfl rfl rfl ?_
  refine AO.nil ?_
  refine AQ.thenN ?_
  refine AW.seq ?_
  refine AW.region ?_
  refine AO.op (O.move rfl rfl) rfl rfl rfl ?_
  refine AO.op (O.move rfl rfl) rfl rfl rfl ?_
  refine AO.op (O.rem rfl rfl rfl (by omega) rfl) rfl rfl rfl ?_
  refine AO.op (O.assign rfl rfl) rfl rfl rfl ?_
  refine AO.nil ?_
  refine AQ.thenN ?_
  refine AW.seq ?_
  refine AW.seq ?_
  refine AW.region ?_
  refine AO.op (O.move rfl rfl) rfl rfl rfl ?_
  refine AO.op (O.lss rfl rfl rfl (by first | exact bTrue (by omega) | exact bFalse (by omega) | assumption | rfl)) rfl rfl rfl ?_
  refine AO.nil ?_
  refine AQ.thenN ?_
  refine AW.split rfl (fun h => ?_) (fun h => ?_)
  · skip
    have h : v.tmod n < 0 := of_decide_eq_true h
    rw [if_pos h] at hf
    refine AW.region ?_
    refine AO.op (O.move rfl rfl) rfl rfl rfl ?_
    refine AO.op (O.move rfl rfl) rfl rfl rfl ?_
    refine AO.op (O.add rfl rfl rfl (by first | exact wI64 (by omega) | rfl)) rfl rfl rfl ?_
    refine AO.op (O.assign rfl rfl) rfl rfl rfl ?_
    refine AO.nil ?_
    refine AQ.thenN ?_
    refine AW.seq ?_
    refine AW.region ?_
    refine AO.op (O.move rfl rfl) rfl rfl rfl ?_
    refine AO.op (O.assign rfl rfl) rfl rfl rfl ?_
    refine AO.nil ?_
    refine AQ.thenN ?_
    refine AW.ret ?_
    refine AQ.ret1 rfl rfl ⟨_, List.nil_sublist _, .nil⟩ (⟨by rw [hf], rfl⟩)
  · skip
    have h : ¬ v.tmod n < 0 := of_decide_eq_false h
    rw [if_neg h] at hf
    refine AW.skip ?_
    refine AQ.thenN ?_
    refine AW.seq ?_
    refine AW.region ?_
    refine AO.op (O.move rfl rfl) rfl rfl rfl ?_
    refine AO.op (O.assign rfl rfl) rfl rfl rfl ?_
    refine AO.nil ?_
    refine AQ.thenN ?_
    refine AW.ret ?_
    refine AQ.ret1 rfl rfl ⟨_, List.nil_sublist _, .nil⟩ (⟨by rw [hf], rfl⟩)

/-- A deck: its numbers, and how many are taken. -/
abbrev deck (b : Nat) (l : List Int) (k : Nat) : HE := .blk b 52 2 [roI l, .val (.int .i64 (k : Int))]
abbrev ptr (b : Nat) : AV := .val (.pointer (some ⟨b, 0, none⟩))
def nxt (l : List Int) (k : Nat) (n : Int) : Int := if k < l.length then l.getD k 0 % n else 0
def adv (l : List Int) (k : Nat) : Nat := if k < l.length then k + 1 else k
theorem nxt_in (l : List Int) (k : Nat) {n : Int} (h : 0 < n) : 0 ≤ nxt l k n ∧ nxt l k n < n := by
  unfold nxt
  split
  · exact ⟨Int.emod_nonneg _ (by omega), Int.emod_lt_of_pos _ h⟩
  · omega
theorem adv_le {l : List Int} {k m : Nat} (h : k ≤ m) (hm : l.length ≤ m) : adv l k ≤ m := by unfold adv; split <;> omega
theorem adv_le' {l : List Int} {k : Nat} (h : k ≤ l.length) : adv l k ≤ l.length := adv_le h (Nat.le_refl _)

theorem new_fn (l : List Int) : Sp Try.prog 6 [roI l] [] (NewBlk (fun b => .val (.pointer (some ⟨b, 0, none⟩))) 52 2 [roI l, .val (.int .i64 0)]) := by
  refine Sp.enter Try.func6 rfl _ Try.ntmps6 rfl (fun w0 R0 => ?_)
  refine AW.seq ?_
  refine AW.region ?_
  refine AO.op (O.assign rfl rfl) rfl rfl rfl ?_
  refine AO.nil ?_
  refine AQ.thenN ?_
  refine AW.seq ?_
  refine AW.region ?_
  refine AO.op (O.move rfl rfl) rfl rfl rfl ?_
  refine AO.op (O.build rfl rfl rfl (by rfl)) rfl rfl rfl ?_
  refine AO.opB (O.box rfl rfl rfl rfl rfl) rfl rfl rfl ?_
  intro B
  refine AO.op (O.assign rfl rfl) rfl rfl rfl ?_
  refine AO.nil ?_
  refine AQ.thenN ?_
  refine AW.ret ?_
  refine AQ.ret1 rfl rfl ⟨_, by repeat (first | exact List.Sublist.slnil | refine List.Sublist.cons_cons _ ?_ | refine List.Sublist.cons _ ?_), List.Perm.refl _⟩ (⟨B, rfl, rfl⟩)

theorem roI_at {l : List Int} {k : Nat} (h : k < l.length) {j : Nat} (hj : j = k) : (intsA .i64 l)[j]? = some (.val (.int .i64 (l.getD k 0))) := by
  subst hj; simp [intsA, h]
set_option maxHeartbeats 1000000 in
theorem next_fn (b : Nat) (l : List Int) (k : Nat) (n : Int) (hl : l.length ≤ maxLen) (hk : k ≤ l.length) (hn1 : 0 < n) (hn2 : n ≤ 4611686018427387904) :
    Sp Try.prog 22 [ptr b, .val (.int .i64 n)] [deck b l k] (IsM (.val (.int .i64 (nxt l k n))) (deck b l (adv l k))) := by
  unfold maxLen at hl
  refine Sp.enter Try.func22 rfl _ Try.ntmps22 rfl (fun w0 R0 => ?_)
  refine AW.seq ?_
  refine AW.region ?_
  refine AO.op (O.assign rfl rfl) rfl rfl rfl ?_
  refine AO.nil ?_
  refine AQ.thenN ?_
  refine AW.seq ?_
  refine AW.seq ?_
  refine AW.regionD 10 (by kernel_rfl) (by kernel_rfl) ?_
  simp only [List.take_succ_cons, List.take_zero, List.drop_succ_cons, List.drop_zero]
  refine FA.op (O.move rfl rfl) rfl rfl rfl rfl ?_
  first | (refine FA.op (O.nilCheck rfl rfl) rfl rfl rfl rfl ?_) | (refine FA.op (O.nilCheckR rfl rfl) rfl rfl rfl rfl ?_)
  first | (refine FA.op (O.fieldAddrR rfl rfl) rfl rfl rfl rfl ?_) | (refine FA.op (O.fieldAddr rfl rfl) rfl rfl rfl rfl ?_)
  first | (refine FA.op (O.loadR rfl rfl (by first | rfl | exact roI_at (by assumption) (by omega))) rfl rfl rfl rfl ?_) | (refine FA.op (O.load rfl rfl (by repeat (first | exact List.Mem.head _ | refine List.Mem.tail _ ?_)) (by first | rfl | exact roI_at (by assumption) (by omega))) rfl rfl rfl rfl ?_)
  refine FA.op (O.move rfl rfl) rfl rfl rfl rfl ?_
  first | (refine FA.op (O.nilCheck rfl rfl) rfl rfl rfl rfl ?_) | (refine FA.op (O.nilCheckR rfl rfl) rfl rfl rfl rfl ?_)
  first | (refine FA.op (O.fieldAddrR rfl rfl) rfl rfl rfl rfl ?_) | (refine FA.op (O.fieldAddr rfl rfl) rfl rfl rfl rfl ?_)
  first | (refine FA.op (O.loadR rfl rfl (by first | rfl | exact roI_at (by assumption) (by omega))) rfl rfl rfl rfl ?_) | (refine FA.op (O.load rfl rfl (by repeat (first | exact List.Mem.head _ | refine List.Mem.tail _ ?_)) (by first | rfl | exact roI_at (by assumption) (by omega))) rfl rfl rfl rfl ?_)
  first | (refine FA.op (O.lenR rfl rfl) rfl rfl rfl rfl ?_) | (refine FA.op (O.lenV rfl rfl) rfl rfl rfl rfl ?_) | (refine FA.op (O.lenRow rfl rfl (by repeat (first | exact List.Mem.head _ | refine List.Mem.tail _ ?_))) rfl rfl rfl rfl ?_) | (refine FA.op (O.lenS rfl rfl) rfl rfl rfl rfl ?_)
  refine FA.op (O.geq rfl rfl rfl (by first | exact bTrue (by omega) | exact bFalse (by omega) | assumption | rfl)) rfl rfl rfl rfl ?_
  refine FA.nil ?_
  simp only [chosen, List.nil_append, List.cons_append, List.append_nil]
  refine AO.nil ?_
  refine AQ.thenN ?_
  refine AW.split rfl (fun h => ?_) (fun h => ?_)
  · skip
    have h : ¬ k < l.length := by have := of_decide_eq_true h; omega
    refine AW.seq ?_
    refine AW.region ?_
    refine AO.op (O.assign rfl rfl) rfl rfl rfl ?_
    refine AO.nil ?_
    refine AQ.thenN ?_
    refine AW.ret ?_
    refine AQ.thenR ?_
    have e1 : nxt l k n = 0 := by simp only [nxt, if_neg h]
    have e2 : adv l k = k := by simp only [adv, if_neg h]
    refine AQ.ret1 rfl rfl ⟨_, by repeat (first | exact List.Sublist.slnil | refine List.Sublist.cons_cons _ ?_ | refine List.Sublist.cons _ ?_), List.Perm.refl _⟩ (⟨congrArg (fun z => AV.val (.int .i64 z)) e1.symm, congrArg (fun z => [deck b l z]) e2.symm⟩)
  · skip
    have h : k < l.length := by have := of_decide_eq_false h; omega
    refine AW.skip ?_
    refine AQ.thenN ?_
    refine AW.seq ?_
    refine AW.region ?_
    refine AO.op (O.move rfl rfl) rfl rfl rfl ?_
    first | (refine AO.op (O.nilCheck rfl rfl) rfl rfl rfl ?_) | (refine AO.op (O.nilCheckR rfl rfl) rfl rfl rfl ?_)
    first | (refine AO.op (O.fieldAddrR rfl rfl) rfl rfl rfl ?_) | (refine AO.op (O.fieldAddr rfl rfl) rfl rfl rfl ?_)
    first | (refine AO.op (O.loadR rfl rfl (by first | rfl | exact roI_at (by assumption) (by omega))) rfl rfl rfl ?_) | (refine AO.op (O.load rfl rfl (by repeat (first | exact List.Mem.head _ | refine List.Mem.tail _ ?_)) (by first | rfl | exact roI_at (by assumption) (by omega))) rfl rfl rfl ?_)
    refine AO.op (O.add rfl rfl rfl (by first | exact wI64 (by omega) | rfl)) rfl rfl rfl ?_
    first | (refine AO.op (O.nilCheck rfl rfl) rfl rfl rfl ?_) | (refine AO.op (O.nilCheckR rfl rfl) rfl rfl rfl ?_)
    first | (refine AO.op (O.fieldAddrR rfl rfl) rfl rfl rfl ?_) | (refine AO.op (O.fieldAddr rfl rfl) rfl rfl rfl ?_)
    first | (refine AO.store (i := 0) rfl rfl rfl rfl rfl rfl (by first | rfl | assumption | (simp [AV.cells, AV.one, *]; done) | (simp [AV.cells, AV.one, roB, roI, roO, show ∀ k z, (Value.int k z).oneCell' = true from fun _ _ => rfl, show ∀ k, (Value.bool k).oneCell' = true from fun _ => rfl, *]; done) | simp [AV.cells, AV.one, Value.oneCell', *]) (by rfl) (by rfl) (by first | (dsimp only [List.set, List.append, List.cons_append, List.nil_append, splice, ofConst, AV.cells, List.map, List.map_cons, List.map_nil, List.take, List.drop, Nat.zero_add, Nat.add_zero, Nat.reduceAdd, Nat.reduceMul, Nat.zero_mul, Value.cells, List.toList_toArray, zerosA, List.replicate, List.flatten, List.append_nil]; rfl) | (dsimp only [List.set, List.append, List.cons_append, List.nil_append, splice, ofConst, AV.cells, List.map, List.map_cons, List.map_nil, List.take, List.drop, Nat.zero_add, Nat.add_zero, Nat.reduceAdd, Nat.reduceMul, Nat.zero_mul, Value.cells, List.toList_toArray, zerosA, List.replicate, List.flatten, List.append_nil]; done) | rfl) (by first | (dsimp only [List.set, List.append, List.cons_append, List.nil_append, splice, ofConst, AV.cells, List.map, List.map_cons, List.map_nil, List.take, List.drop, Nat.zero_add, Nat.add_zero, Nat.reduceAdd, Nat.reduceMul, Nat.zero_mul, Value.cells, List.toList_toArray, zerosA, List.replicate, List.flatten, List.append_nil]; rfl) | (dsimp only [List.set, List.append, List.cons_append, List.nil_append, splice, ofConst, AV.cells, List.map, List.map_cons, List.map_nil, List.take, List.drop, Nat.zero_add, Nat.add_zero, Nat.reduceAdd, Nat.reduceMul, Nat.zero_mul, Value.cells, List.toList_toArray, zerosA, List.replicate, List.flatten, List.append_nil]; done) | rfl) ?_) | (refine AO.store (i := 1) rfl rfl rfl rfl rfl rfl (by first | rfl | assumption | (simp [AV.cells, AV.one, *]; done) | (simp [AV.cells, AV.one, roB, roI, roO, show ∀ k z, (Value.int k z).oneCell' = true from fun _ _ => rfl, show ∀ k, (Value.bool k).oneCell' = true from fun _ => rfl, *]; done) | simp [AV.cells, AV.one, Value.oneCell', *]) (by rfl) (by rfl) (by first | (dsimp only [List.set, List.append, List.cons_append, List.nil_append, splice, ofConst, AV.cells, List.map, List.map_cons, List.map_nil, List.take, List.drop, Nat.zero_add, Nat.add_zero, Nat.reduceAdd, Nat.reduceMul, Nat.zero_mul, Value.cells, List.toList_toArray, zerosA, List.replicate, List.flatten, List.append_nil]; rfl) | (dsimp only [List.set, List.append, List.cons_append, List.nil_append, splice, ofConst, AV.cells, List.map, List.map_cons, List.map_nil, List.take, List.drop, Nat.zero_add, Nat.add_zero, Nat.reduceAdd, Nat.reduceMul, Nat.zero_mul, Value.cells, List.toList_toArray, zerosA, List.replicate, List.flatten, List.append_nil]; done) | rfl) (by first | (dsimp only [List.set, List.append, List.cons_append, List.nil_append, splice, ofConst, AV.cells, List.map, List.map_cons, List.map_nil, List.take, List.drop, Nat.zero_add, Nat.add_zero, Nat.reduceAdd, Nat.reduceMul, Nat.zero_mul, Value.cells, List.toList_toArray, zerosA, List.replicate, List.flatten, List.append_nil]; rfl) | (dsimp only [List.set, List.append, List.cons_append, List.nil_append, splice, ofConst, AV.cells, List.map, List.map_cons, List.map_nil, List.take, List.drop, Nat.zero_add, Nat.add_zero, Nat.reduceAdd, Nat.reduceMul, Nat.zero_mul, Value.cells, List.toList_toArray, zerosA, List.replicate, List.flatten, List.append_nil]; done) | rfl) ?_) | (refine AO.store (i := 2) rfl rfl rfl rfl rfl rfl (by first | rfl | assumption | (simp [AV.cells, AV.one, *]; done) | (simp [AV.cells, AV.one, roB, roI, roO, show ∀ k z, (Value.int k z).oneCell' = true from fun _ _ => rfl, show ∀ k, (Value.bool k).oneCell' = true from fun _ => rfl, *]; done) | simp [AV.cells, AV.one, Value.oneCell', *]) (by rfl) (by rfl) (by first | (dsimp only [List.set, List.append, List.cons_append, List.nil_append, splice, ofConst, AV.cells, List.map, List.map_cons, List.map_nil, List.take, List.drop, Nat.zero_add, Nat.add_zero, Nat.reduceAdd, Nat.reduceMul, Nat.zero_mul, Value.cells, List.toList_toArray, zerosA, List.replicate, List.flatten, List.append_nil]; rfl) | (dsimp only [List.set, List.append, List.cons_append, List.nil_append, splice, ofConst, AV.cells, List.map, List.map_cons, List.map_nil, List.take, List.drop, Nat.zero_add, Nat.add_zero, Nat.reduceAdd, Nat.reduceMul, Nat.zero_mul, Value.cells, List.toList_toArray, zerosA, List.replicate, List.flatten, List.append_nil]; done) | rfl) (by first | (dsimp only [List.set, List.append, List.cons_append, List.nil_append, splice, ofConst, AV.cells, List.map, List.map_cons, List.map_nil, List.take, List.drop, Nat.zero_add, Nat.add_zero, Nat.reduceAdd, Nat.reduceMul, Nat.zero_mul, Value.cells, List.toList_toArray, zerosA, List.replicate, List.flatten, List.append_nil]; rfl) | (dsimp only [List.set, List.append, List.cons_append, List.nil_append, splice, ofConst, AV.cells, List.map, List.map_cons, List.map_nil, List.take, List.drop, Nat.zero_add, Nat.add_zero, Nat.reduceAdd, Nat.reduceMul, Nat.zero_mul, Value.cells, List.toList_toArray, zerosA, List.replicate, List.flatten, List.append_nil]; done) | rfl) ?_) | (refine AO.store (i := 3) rfl rfl rfl rfl rfl rfl (by first | rfl | assumption | (simp [AV.cells, AV.one, *]; done) | (simp [AV.cells, AV.one, roB, roI, roO, show ∀ k z, (Value.int k z).oneCell' = true from fun _ _ => rfl, show ∀ k, (Value.bool k).oneCell' = true from fun _ => rfl, *]; done) | simp [AV.cells, AV.one, Value.oneCell', *]) (by rfl) (by rfl) (by first | (dsimp only [List.set, List.append, List.cons_append, List.nil_append, splice, ofConst, AV.cells, List.map, List.map_cons, List.map_nil, List.take, List.drop, Nat.zero_add, Nat.add_zero, Nat.reduceAdd, Nat.reduceMul, Nat.zero_mul, Value.cells, List.toList_toArray, zerosA, List.replicate, List.flatten, List.append_nil]; rfl) | (dsimp only [List.set, List.append, List.cons_append, List.nil_append, splice, ofConst, AV.cells, List.map, List.map_cons, List.map_nil, List.take, List.drop, Nat.zero_add, Nat.add_zero, Nat.reduceAdd, Nat.reduceMul, Nat.zero_mul, Value.cells, List.toList_toArray, zerosA, List.replicate, List.flatten, List.append_nil]; done) | rfl) (by first | (dsimp only [List.set, List.append, List.cons_append, List.nil_append, splice, ofConst, AV.cells, List.map, List.map_cons, List.map_nil, List.take, List.drop, Nat.zero_add, Nat.add_zero, Nat.reduceAdd, Nat.reduceMul, Nat.zero_mul, Value.cells, List.toList_toArray, zerosA, List.replicate, List.flatten, List.append_nil]; rfl) | (dsimp only [List.set, List.append, List.cons_append, List.nil_append, splice, ofConst, AV.cells, List.map, List.map_cons, List.map_nil, List.take, List.drop, Nat.zero_add, Nat.add_zero, Nat.reduceAdd, Nat.reduceMul, Nat.zero_mul, Value.cells, List.toList_toArray, zerosA, List.replicate, List.flatten, List.append_nil]; done) | rfl) ?_) | (refine AO.store (i := 4) rfl rfl rfl rfl rfl rfl (by first | rfl | assumption | (simp [AV.cells, AV.one, *]; done) | (simp [AV.cells, AV.one, roB, roI, roO, show ∀ k z, (Value.int k z).oneCell' = true from fun _ _ => rfl, show ∀ k, (Value.bool k).oneCell' = true from fun _ => rfl, *]; done) | simp [AV.cells, AV.one, Value.oneCell', *]) (by rfl) (by rfl) (by first | (dsimp only [List.set, List.append, List.cons_append, List.nil_append, splice, ofConst, AV.cells, List.map, List.map_cons, List.map_nil, List.take, List.drop, Nat.zero_add, Nat.add_zero, Nat.reduceAdd, Nat.reduceMul, Nat.zero_mul, Value.cells, List.toList_toArray, zerosA, List.replicate, List.flatten, List.append_nil]; rfl) | (dsimp only [List.set, List.append, List.cons_append, List.nil_append, splice, ofConst, AV.cells, List.map, List.map_cons, List.map_nil, List.take, List.drop, Nat.zero_add, Nat.add_zero, Nat.reduceAdd, Nat.reduceMul, Nat.zero_mul, Value.cells, List.toList_toArray, zerosA, List.replicate, List.flatten, List.append_nil]; done) | rfl) (by first | (dsimp only [List.set, List.append, List.cons_append, List.nil_append, splice, ofConst, AV.cells, List.map, List.map_cons, List.map_nil, List.take, List.drop, Nat.zero_add, Nat.add_zero, Nat.reduceAdd, Nat.reduceMul, Nat.zero_mul, Value.cells, List.toList_toArray, zerosA, List.replicate, List.flatten, List.append_nil]; rfl) | (dsimp only [List.set, List.append, List.cons_append, List.nil_append, splice, ofConst, AV.cells, List.map, List.map_cons, List.map_nil, List.take, List.drop, Nat.zero_add, Nat.add_zero, Nat.reduceAdd, Nat.reduceMul, Nat.zero_mul, Value.cells, List.toList_toArray, zerosA, List.replicate, List.flatten, List.append_nil]; done) | rfl) ?_) | (refine AO.store (i := 5) rfl rfl rfl rfl rfl rfl (by first | rfl | assumption | (simp [AV.cells, AV.one, *]; done) | (simp [AV.cells, AV.one, roB, roI, roO, show ∀ k z, (Value.int k z).oneCell' = true from fun _ _ => rfl, show ∀ k, (Value.bool k).oneCell' = true from fun _ => rfl, *]; done) | simp [AV.cells, AV.one, Value.oneCell', *]) (by rfl) (by rfl) (by first | (dsimp only [List.set, List.append, List.cons_append, List.nil_append, splice, ofConst, AV.cells, List.map, List.map_cons, List.map_nil, List.take, List.drop, Nat.zero_add, Nat.add_zero, Nat.reduceAdd, Nat.reduceMul, Nat.zero_mul, Value.cells, List.toList_toArray, zerosA, List.replicate, List.flatten, List.append_nil]; rfl) | (dsimp only [List.set, List.append, List.cons_append, List.nil_append, splice, ofConst, AV.cells, List.map, List.map_cons, List.map_nil, List.take, List.drop, Nat.zero_add, Nat.add_zero, Nat.reduceAdd, Nat.reduceMul, Nat.zero_mul, Value.cells, List.toList_toArray, zerosA, List.replicate, List.flatten, List.append_nil]; done) | rfl) (by first | (dsimp only [List.set, List.append, List.cons_append, List.nil_append, splice, ofConst, AV.cells, List.map, List.map_cons, List.map_nil, List.take, List.drop, Nat.zero_add, Nat.add_zero, Nat.reduceAdd, Nat.reduceMul, Nat.zero_mul, Value.cells, List.toList_toArray, zerosA, List.replicate, List.flatten, List.append_nil]; rfl) | (dsimp only [List.set, List.append, List.cons_append, List.nil_append, splice, ofConst, AV.cells, List.map, List.map_cons, List.map_nil, List.take, List.drop, Nat.zero_add, Nat.add_zero, Nat.reduceAdd, Nat.reduceMul, Nat.zero_mul, Value.cells, List.toList_toArray, zerosA, List.replicate, List.flatten, List.append_nil]; done) | rfl) ?_) | (refine AO.store (i := 6) rfl rfl rfl rfl rfl rfl (by first | rfl | assumption | (simp [AV.cells, AV.one, *]; done) | (simp [AV.cells, AV.one, roB, roI, roO, show ∀ k z, (Value.int k z).oneCell' = true from fun _ _ => rfl, show ∀ k, (Value.bool k).oneCell' = true from fun _ => rfl, *]; done) | simp [AV.cells, AV.one, Value.oneCell', *]) (by rfl) (by rfl) (by first | (dsimp only [List.set, List.append, List.cons_append, List.nil_append, splice, ofConst, AV.cells, List.map, List.map_cons, List.map_nil, List.take, List.drop, Nat.zero_add, Nat.add_zero, Nat.reduceAdd, Nat.reduceMul, Nat.zero_mul, Value.cells, List.toList_toArray, zerosA, List.replicate, List.flatten, List.append_nil]; rfl) | (dsimp only [List.set, List.append, List.cons_append, List.nil_append, splice, ofConst, AV.cells, List.map, List.map_cons, List.map_nil, List.take, List.drop, Nat.zero_add, Nat.add_zero, Nat.reduceAdd, Nat.reduceMul, Nat.zero_mul, Value.cells, List.toList_toArray, zerosA, List.replicate, List.flatten, List.append_nil]; done) | rfl) (by first | (dsimp only [List.set, List.append, List.cons_append, List.nil_append, splice, ofConst, AV.cells, List.map, List.map_cons, List.map_nil, List.take, List.drop, Nat.zero_add, Nat.add_zero, Nat.reduceAdd, Nat.reduceMul, Nat.zero_mul, Value.cells, List.toList_toArray, zerosA, List.replicate, List.flatten, List.append_nil]; rfl) | (dsimp only [List.set, List.append, List.cons_append, List.nil_append, splice, ofConst, AV.cells, List.map, List.map_cons, List.map_nil, List.take, List.drop, Nat.zero_add, Nat.add_zero, Nat.reduceAdd, Nat.reduceMul, Nat.zero_mul, Value.cells, List.toList_toArray, zerosA, List.replicate, List.flatten, List.append_nil]; done) | rfl) ?_) | (refine AO.store (i := 7) rfl rfl rfl rfl rfl rfl (by first | rfl | assumption | (simp [AV.cells, AV.one, *]; done) | (simp [AV.cells, AV.one, roB, roI, roO, show ∀ k z, (Value.int k z).oneCell' = true from fun _ _ => rfl, show ∀ k, (Value.bool k).oneCell' = true from fun _ => rfl, *]; done) | simp [AV.cells, AV.one, Value.oneCell', *]) (by rfl) (by rfl) (by first | (dsimp only [List.set, List.append, List.cons_append, List.nil_append, splice, ofConst, AV.cells, List.map, List.map_cons, List.map_nil, List.take, List.drop, Nat.zero_add, Nat.add_zero, Nat.reduceAdd, Nat.reduceMul, Nat.zero_mul, Value.cells, List.toList_toArray, zerosA, List.replicate, List.flatten, List.append_nil]; rfl) | (dsimp only [List.set, List.append, List.cons_append, List.nil_append, splice, ofConst, AV.cells, List.map, List.map_cons, List.map_nil, List.take, List.drop, Nat.zero_add, Nat.add_zero, Nat.reduceAdd, Nat.reduceMul, Nat.zero_mul, Value.cells, List.toList_toArray, zerosA, List.replicate, List.flatten, List.append_nil]; done) | rfl) (by first | (dsimp only [List.set, List.append, List.cons_append, List.nil_append, splice, ofConst, AV.cells, List.map, List.map_cons, List.map_nil, List.take, List.drop, Nat.zero_add, Nat.add_zero, Nat.reduceAdd, Nat.reduceMul, Nat.zero_mul, Value.cells, List.toList_toArray, zerosA, List.replicate, List.flatten, List.append_nil]; rfl) | (dsimp only [List.set, List.append, List.cons_append, List.nil_append, splice, ofConst, AV.cells, List.map, List.map_cons, List.map_nil, List.take, List.drop, Nat.zero_add, Nat.add_zero, Nat.reduceAdd, Nat.reduceMul, Nat.zero_mul, Value.cells, List.toList_toArray, zerosA, List.replicate, List.flatten, List.append_nil]; done) | rfl) ?_) | (refine AO.store (i := 8) rfl rfl rfl rfl rfl rfl (by first | rfl | assumption | (simp [AV.cells, AV.one, *]; done) | (simp [AV.cells, AV.one, roB, roI, roO, show ∀ k z, (Value.int k z).oneCell' = true from fun _ _ => rfl, show ∀ k, (Value.bool k).oneCell' = true from fun _ => rfl, *]; done) | simp [AV.cells, AV.one, Value.oneCell', *]) (by rfl) (by rfl) (by first | (dsimp only [List.set, List.append, List.cons_append, List.nil_append, splice, ofConst, AV.cells, List.map, List.map_cons, List.map_nil, List.take, List.drop, Nat.zero_add, Nat.add_zero, Nat.reduceAdd, Nat.reduceMul, Nat.zero_mul, Value.cells, List.toList_toArray, zerosA, List.replicate, List.flatten, List.append_nil]; rfl) | (dsimp only [List.set, List.append, List.cons_append, List.nil_append, splice, ofConst, AV.cells, List.map, List.map_cons, List.map_nil, List.take, List.drop, Nat.zero_add, Nat.add_zero, Nat.reduceAdd, Nat.reduceMul, Nat.zero_mul, Value.cells, List.toList_toArray, zerosA, List.replicate, List.flatten, List.append_nil]; done) | rfl) (by first | (dsimp only [List.set, List.append, List.cons_append, List.nil_append, splice, ofConst, AV.cells, List.map, List.map_cons, List.map_nil, List.take, List.drop, Nat.zero_add, Nat.add_zero, Nat.reduceAdd, Nat.reduceMul, Nat.zero_mul, Value.cells, List.toList_toArray, zerosA, List.replicate, List.flatten, List.append_nil]; rfl) | (dsimp only [List.set, List.append, List.cons_append, List.nil_append, splice, ofConst, AV.cells, List.map, List.map_cons, List.map_nil, List.take, List.drop, Nat.zero_add, Nat.add_zero, Nat.reduceAdd, Nat.reduceMul, Nat.zero_mul, Value.cells, List.toList_toArray, zerosA, List.replicate, List.flatten, List.append_nil]; done) | rfl) ?_) | (refine AO.store (i := 9) rfl rfl rfl rfl rfl rfl (by first | rfl | assumption | (simp [AV.cells, AV.one, *]; done) | (simp [AV.cells, AV.one, roB, roI, roO, show ∀ k z, (Value.int k z).oneCell' = true from fun _ _ => rfl, show ∀ k, (Value.bool k).oneCell' = true from fun _ => rfl, *]; done) | simp [AV.cells, AV.one, Value.oneCell', *]) (by rfl) (by rfl) (by first | (dsimp only [List.set, List.append, List.cons_append, List.nil_append, splice, ofConst, AV.cells, List.map, List.map_cons, List.map_nil, List.take, List.drop, Nat.zero_add, Nat.add_zero, Nat.reduceAdd, Nat.reduceMul, Nat.zero_mul, Value.cells, List.toList_toArray, zerosA, List.replicate, List.flatten, List.append_nil]; rfl) | (dsimp only [List.set, List.append, List.cons_append, List.nil_append, splice, ofConst, AV.cells, List.map, List.map_cons, List.map_nil, List.take, List.drop, Nat.zero_add, Nat.add_zero, Nat.reduceAdd, Nat.reduceMul, Nat.zero_mul, Value.cells, List.toList_toArray, zerosA, List.replicate, List.flatten, List.append_nil]; done) | rfl) (by first | (dsimp only [List.set, List.append, List.cons_append, List.nil_append, splice, ofConst, AV.cells, List.map, List.map_cons, List.map_nil, List.take, List.drop, Nat.zero_add, Nat.add_zero, Nat.reduceAdd, Nat.reduceMul, Nat.zero_mul, Value.cells, List.toList_toArray, zerosA, List.replicate, List.flatten, List.append_nil]; rfl) | (dsimp only [List.set, List.append, List.cons_append, List.nil_append, splice, ofConst, AV.cells, List.map, List.map_cons, List.map_nil, List.take, List.drop, Nat.zero_add, Nat.add_zero, Nat.reduceAdd, Nat.reduceMul, Nat.zero_mul, Value.cells, List.toList_toArray, zerosA, List.replicate, List.flatten, List.append_nil]; done) | rfl) ?_)
    refine AO.nil ?_
    refine AQ.thenN ?_
    refine AW.seq ?_
    refine AW.regionD 14 (by kernel_rfl) (by kernel_rfl) ?_
    simp only [List.take_succ_cons, List.take_zero, List.drop_succ_cons, List.drop_zero]
    refine FA.op (O.move rfl rfl) rfl rfl rfl rfl ?_
    first | (refine FA.op (O.nilCheck rfl rfl) rfl rfl rfl rfl ?_) | (refine FA.op (O.nilCheckR rfl rfl) rfl rfl rfl rfl ?_)
    first | (refine FA.op (O.fieldAddrR rfl rfl) rfl rfl rfl rfl ?_) | (refine FA.op (O.fieldAddr rfl rfl) rfl rfl rfl rfl ?_)
    first | (refine FA.op (O.loadR rfl rfl (by first | rfl | exact roI_at (by assumption) (by omega))) rfl rfl rfl rfl ?_) | (refine FA.op (O.load rfl rfl (by repeat (first | exact List.Mem.head _ | refine List.Mem.tail _ ?_)) (by first | rfl | exact roI_at (by assumption) (by omega))) rfl rfl rfl rfl ?_)
    refine FA.op (O.move rfl rfl) rfl rfl rfl rfl ?_
    first | (refine FA.op (O.nilCheck rfl rfl) rfl rfl rfl rfl ?_) | (refine FA.op (O.nilCheckR rfl rfl) rfl rfl rfl rfl ?_)
    first | (refine FA.op (O.fieldAddrR rfl rfl) rfl rfl rfl rfl ?_) | (refine FA.op (O.fieldAddr rfl rfl) rfl rfl rfl rfl ?_)
    first | (refine FA.op (O.loadR rfl rfl (by first | rfl | exact roI_at (by assumption) (by omega))) rfl rfl rfl rfl ?_) | (refine FA.op (O.load rfl rfl (by repeat (first | exact List.Mem.head _ | refine List.Mem.tail _ ?_)) (by first | rfl | exact roI_at (by assumption) (by omega))) rfl rfl rfl rfl ?_)
    refine FA.op (O.sub rfl rfl rfl (by first | exact wI64 (by omega) | rfl)) rfl rfl rfl rfl ?_
    first | (refine FA.op (O.idxR rfl rfl rfl ⟨(by first | omega | (simp only [List.length_take, List.length_drop, List.length_append, List.length_cons, List.length_nil, List.length_set, Nat.zero_add]; omega) | (simp only [cond_true, cond_false, Bool.not_eq_true', Bool.not_eq_false', Bool.and_eq_true, Bool.or_eq_true, Bool.or_eq_false_iff, Bool.and_eq_false_imp, decide_eq_true_eq, decide_eq_false_iff_not, beq_iff_eq, bne_iff_ne, bne_eq_false_iff_eq, ne_eq] at hp; omega)), (by first | omega | (simp only [List.length_take, List.length_drop, List.length_append, List.length_cons, List.length_nil, List.length_set, Nat.zero_add]; omega) | (simp only [cond_true, cond_false, Bool.not_eq_true', Bool.not_eq_false', Bool.and_eq_true, Bool.or_eq_true, Bool.or_eq_false_iff, Bool.and_eq_false_imp, decide_eq_true_eq, decide_eq_false_iff_not, beq_iff_eq, bne_iff_ne, bne_eq_false_iff_eq, ne_eq] at hp; omega))⟩) rfl rfl rfl rfl ?_) | (refine FA.op (O.idxV rfl rfl rfl ⟨(by first | omega | (simp only [List.length_take, List.length_drop, List.length_append, List.length_cons, List.length_nil, List.length_set, Nat.zero_add]; omega) | (simp only [cond_true, cond_false, Bool.not_eq_true', Bool.not_eq_false', Bool.and_eq_true, Bool.or_eq_true, Bool.or_eq_false_iff, Bool.and_eq_false_imp, decide_eq_true_eq, decide_eq_false_iff_not, beq_iff_eq, bne_iff_ne, bne_eq_false_iff_eq, ne_eq] at hp; omega)), (by first | omega | (simp only [List.length_take, List.length_drop, List.length_append, List.length_cons, List.length_nil, List.length_set, Nat.zero_add]; omega) | (simp only [cond_true, cond_false, Bool.not_eq_true', Bool.not_eq_false', Bool.and_eq_true, Bool.or_eq_true, Bool.or_eq_false_iff, Bool.and_eq_false_imp, decide_eq_true_eq, decide_eq_false_iff_not, beq_iff_eq, bne_iff_ne, bne_eq_false_iff_eq, ne_eq] at hp; omega))⟩) rfl rfl rfl rfl ?_)
    first | (refine FA.op (O.loadR rfl rfl (by first | rfl | exact roI_at (by assumption) (by omega))) rfl rfl rfl rfl ?_) | (refine FA.op (O.load rfl rfl (by repeat (first | exact List.Mem.head _ | refine List.Mem.tail _ ?_)) (by first | rfl | exact roI_at (by assumption) (by omega))) rfl rfl rfl rfl ?_)
    refine FA.op (O.move rfl rfl) rfl rfl rfl rfl ?_
    first | (refine FA.op (O.call rfl Try.func39 rfl rfl rfl (mod_fn _ _ hn1 hn2)) rfl rfl rfl rfl ?_) | (refine FA.op (O.callC rfl Try.func39 rfl rfl rfl (mod_fn _ _ hn1 hn2) (by (repeat (first | exact CoeL.nil | refine CoeL.cons Coe.rfl ?_ | refine CoeL.cons Coe.nil ?_ | refine CoeL.cons Coe.unfull ?_ | refine CoeL.cons (Coe.agg ?_) ?_ | refine CoeL.cons (Coe.tup ?_) ?_ | refine CoeL.cons (Coe.ro ?_) ?_)); first | done | fail)) rfl rfl rfl rfl ?_) | (refine FA.op (O.callL rfl Try.func39 rfl rfl rfl (by repeat (first | exact List.Mem.head _ | refine List.Mem.tail _ ?_)) (mod_fn _ _ hn1 hn2) (by (repeat (first | exact LendL.nil | refine LendL.same ?_ | refine LendL.lend ?_)); first | done | fail)) rfl rfl rfl rfl ?_)
    refine FA.op (O.assign rfl rfl) rfl rfl rfl rfl ?_
    refine FA.nil ?_
    simp only [chosen, List.nil_append, List.cons_append, List.append_nil]
    refine AO.nil ?_
    refine AQ.thenN ?_
    refine AW.ret ?_
    have e1 : nxt l k n = l.getD k 0 % n := by simp only [nxt, if_pos h]
    have e2 : adv l k = k + 1 := by simp only [adv, if_pos h]
    refine AQ.ret1 rfl rfl ⟨_, by repeat (first | exact List.Sublist.slnil | refine List.Sublist.cons_cons _ ?_ | refine List.Sublist.cons _ ?_), List.Perm.refl _⟩ (⟨congrArg (fun z => AV.val (.int .i64 z)) e1.symm, congrArg (fun z => [deck b l z]) e2.symm⟩)
end Go.Proofs.Ytjgmedmakbjkdaa.Dk

namespace Go.Proofs.Ytjgmedmakbjkdaa.By
open Go.RowKit L A
set_option linter.unusedVariables false
set_option linter.unusedSimpArgs false
attribute [local irreducible] AW AQ AO

section
variable {α : Type} {f : α → List AV} {k : Nat}
theorem flat_len (hf : ∀ a, (f a).length = k) : ∀ l : List α, (l.flatMap f).length = l.length * k
  | [] => by simp
  | a :: l => by rw [List.flatMap_cons, List.length_append, hf, flat_len hf l, List.length_cons, Nat.add_mul]; omega
theorem flat_take (hf : ∀ a, (f a).length = k) : ∀ (l : List α) (n : Nat), (l.flatMap f).take (n * k) = (l.take n).flatMap f
  | [], n => by simp
  | a :: l, 0 => by simp
  | a :: l, n + 1 => by
    rw [List.flatMap_cons, List.take_succ_cons, List.flatMap_cons, ← flat_take hf l n, show (n + 1) * k = (f a).length + n * k by rw [hf, Nat.add_mul]; omega, List.take_length_add_append]
theorem flat_drop (hf : ∀ a, (f a).length = k) : ∀ (l : List α) (n : Nat), (l.flatMap f).drop (n * k) = (l.drop n).flatMap f
  | [], n => by simp
  | a :: l, 0 => by simp
  | a :: l, n + 1 => by
    rw [List.flatMap_cons, List.drop_succ_cons, ← flat_drop hf l n, show (n + 1) * k = (f a).length + n * k by rw [hf, Nat.add_mul]; omega, List.drop_length_add_append]
theorem flat_at (hf : ∀ a, (f a).length = k) (d : α) {l : List α} {i : Nat} (h : i < l.length) {j : Nat} (hj : j = i) : ((l.flatMap f).drop (j * k)).take k = f (l.getD i d) := by
  subst hj
  rw [flat_drop hf, List.drop_eq_getElem_cons h, List.flatMap_cons, List.take_left' (hf _)]
  simp [h]
theorem flat_cell (hf : ∀ a, (f a).length = k) (d : α) {l : List α} {i c : Nat} (h : i < l.length) (hc : c < k) {j : Nat} (hj : j = i * k + c) : (l.flatMap f)[j]? = (f (l.getD i d))[c]? := by
  have := flat_at hf d h rfl
  rw [← this, List.getElem?_take, if_pos hc, List.getElem?_drop, hj]
theorem flat_app (l m : List α) : (l ++ m).flatMap f = l.flatMap f ++ m.flatMap f := List.flatMap_append
theorem flat_snoc (l : List α) (a : α) : (l ++ [a]).flatMap f = l.flatMap f ++ f a := by simp [List.flatMap_append]
theorem take_snoc (d : α) {l : List α} {i : Nat} (h : i < l.length) : l.take (i + 1) = l.take i ++ [l.getD i d] := by
  rw [List.take_succ_eq_append_getElem h]; simp [h]
theorem drop_cons (d : α) {l : List α} {i : Nat} (h : i < l.length) : l.drop i = l.getD i d :: l.drop (i + 1) := by
  rw [List.drop_eq_getElem_cons h]; simp [h]
theorem getD_mem (d : α) {l : List α} {i : Nat} (h : i < l.length) : l.getD i d ∈ l := by simp [h]
end

/-! ### Bytes -/
abbrev bt (l : List UInt8) (k : Nat) : UInt8 := l.getD k 0
theorem bt_at {l : List UInt8} {k : Nat} (h : k < l.length) {j : Nat} (hj : j = k) : (bytesA l)[j]? = some (.val (.int .u8 ((bt l k).toNat : Int))) := by
  subst hj; simp [bytesA, h, bt]
theorem u8_eq {x y : UInt8} : (x.toNat : Int) = (y.toNat : Int) ↔ x = y := by
  rw [Int.ofNat_inj]; exact UInt8.toNat_inj
theorem roB_of {n : Nat} {xs : List AV} {l : List UInt8} (h1 : n = l.length) (h2 : xs = bytesA l) : AV.ro false n xs = roB l := by subst h1; subst h2; rfl
theorem drop_bt {l : List UInt8} {k : Nat} (h : k < l.length) : l.drop k = bt l k :: l.drop (k + 1) := drop_cons 0 h
@[simp] theorem take_bytesA (l : List UInt8) (n : Nat) : (bytesA l).take n = bytesA (l.take n) := by simp [bytesA, List.map_take]
@[simp] theorem drop_bytesA (l : List UInt8) (n : Nat) : (bytesA l).drop n = bytesA (l.drop n) := by simp [bytesA, List.map_drop]
section
variable {P : Program} {E : Env} {H : List HE} {N : Nat} {o : Oper}
end

/-! ### Messages -/
structure Opt where
  num : Int
  val : List UInt8
  deriving DecidableEq
structure Msg where
  ty : Int
  code : Int
  id : Int
  tok : List UInt8
  opts : List Opt
  pay : List UInt8
  deriving DecidableEq
def Opt.none : Opt := ⟨0, []⟩
def Msg.none : Msg := ⟨0, 0, 0, [], [], []⟩
def cellsO (o : Opt) : List AV := [.val (.int .i64 o.num), roB o.val]
theorem cellsO_len (o : Opt) : (cellsO o).length = 2 := rfl
def optsA (os : List Opt) : List AV := os.flatMap cellsO
def roO (os : List Opt) : AV := .ro false os.length (optsA os)
def cellsM (m : Msg) : List AV := [.val (.int .i64 m.ty), .val (.int .i64 m.code), .val (.int .i64 m.id), roB m.tok, roO m.opts, roB m.pay]
abbrev aggM (m : Msg) : AV := .agg [.val (.int .i64 m.ty), .val (.int .i64 m.code), .val (.int .i64 m.id), roB m.tok, roO m.opts, roB m.pay]
abbrev aggO (o : Opt) : AV := .agg [.val (.int .i64 o.num), roB o.val]
theorem roB_cells (l : List UInt8) : (roB l).cells = [roB l] := rfl
theorem roI_cells (l : List Int) : (roI l).cells = [roI l] := rfl
theorem roO_cells (l : List Opt) : (roO l).cells = [roO l] := rfl
abbrev oat (os : List Opt) (k : Nat) : Opt := os.getD k Opt.none
@[simp] theorem optsA_len (os : List Opt) : (optsA os).length = os.length * 2 := flat_len cellsO_len os
end Go.Proofs.Ytjgmedmakbjkdaa.By

namespace Go.Proofs.Ytjgmedmakbjkdaa.By
open Go.RowKit L A
set_option linter.unusedVariables false
set_option linter.unusedSimpArgs false
attribute [local irreducible] AW AQ AO

def cmpB : List UInt8 → List UInt8 → Int
  | x :: a, y :: b => if x = y then cmpB a b else if x.toNat < y.toNat then -1 else 1
  | [], [] => 0
  | [], _ => -1
  | _, [] => 1
theorem cmpB_zero : ∀ {a b : List UInt8}, cmpB a b = 0 ↔ a = b
  | [], [] => by simp [cmpB]
  | [], _ :: _ => by simp [cmpB]
  | _ :: _, [] => by simp [cmpB]
  | x :: a, y :: b => by
    unfold cmpB
    split
    · rename_i h
      rw [cmpB_zero, h]; simp
    · rename_i h
      simp only [List.cons.injEq, h, false_and, iff_false]
      split <;> omega
theorem cmpB_step {a b : List UInt8} {k : Nat} (h1 : k < a.length) (h2 : k < b.length) :
    cmpB (a.drop k) (b.drop k) = if bt a k = bt b k then cmpB (a.drop (k + 1)) (b.drop (k + 1)) else if (bt a k).toNat < (bt b k).toNat then -1 else 1 := by
  rw [drop_bt h1, drop_bt h2, cmpB]
theorem cmpB_end {a b : List UInt8} {k : Nat} (h1 : k ≤ a.length) (h2 : k ≤ b.length) (h : k < a.length → b.length ≤ k) : cmpB (a.drop k) (b.drop k) = if a.length < b.length then -1 else if b.length < a.length then 1 else 0 := by
  rcases Nat.lt_or_eq_of_le h1 with h3 | h3
  · have h4 : b.length = k := by have := h h3; omega
    have e : b.drop k = [] := List.drop_of_length_le (by omega)
    rw [drop_bt h3, e, if_neg (by omega), if_pos (by omega)]
    simp [cmpB]
  · have e : a.drop k = [] := List.drop_of_length_le (by omega)
    rw [e]
    rcases Nat.lt_or_eq_of_le h2 with h5 | h5
    · rw [drop_bt h5, if_pos (by omega)]; simp [cmpB]
    · have e : b.drop k = [] := List.drop_of_length_le (by omega)
      rw [e, if_neg (by omega), if_neg (by omega)]; simp [cmpB]

set_option maxHeartbeats 1000000 in
theorem compare_fn (a b : List UInt8) : Sp Try.prog 40 [roB a, roB b] [] (Is (.val (.int .i64 (cmpB a b)))) := by
  refine Sp.enter Try.func40 rfl _ Try.ntmps40 rfl (fun w0 R0 => ?_)
  refine AW.g ?_
  refine G.lenRo (t := 0) rfl (fun hm1 => ?_)
  refine AW.u ?_
  refine AW.g ?_
  refine G.lenRo (t := 1) rfl (fun hm2 => ?_)
  refine AW.u ?_
  unfold maxLen at hm1 hm2
  refine AW.seq ?_
  refine AW.region ?_
  refine AO.op (O.assign rfl rfl) rfl rfl rfl ?_
  refine AO.nil ?_
  refine AQ.thenN ?_
  refine AW.seq ?_
  refine AW.seq ?_
  refine AW.region ?_
  refine AO.op (O.assign rfl rfl) rfl rfl rfl ?_
  refine AO.nil ?_
  refine AQ.thenN ?_
  refine AW.block ?_
  refine AW.loopK [(0, _), (1, _)] (fun nn E H => ∃ (k : Nat), (k ≤ a.length) ∧ (k ≤ b.length) ∧ (cmpB a b = cmpB (a.drop k) (b.drop k)) ∧ nn = a.length - k ∧ E = [(5, .val (.int .i64 (k : Int)))] ∧ H = []) _ (⟨0, by omega, by omega, rfl, rfl, rfl, rfl⟩) (by repeat (first | exact envNil | refine envCons rfl ?_)) (by repeat (first | exact envNil | refine envCons rfl ?_)) (by repeat (exact subPnil)) ?_
  rintro nn E H ⟨k, h1, h2, hc, rfl, rfl, rfl⟩
  dsimp only [List.cons_append, List.nil_append]
  refine AW.seq ?_
  refine AW.seq ?_
  refine AW.region ?_
  refine AO.op (O.move rfl rfl) rfl rfl rfl ?_
  refine AO.op (O.move rfl rfl) rfl rfl rfl ?_
  refine AO.op (O.lenR rfl rfl) rfl rfl rfl ?_
  refine AO.op (O.lss rfl rfl rfl (by rfl)) rfl rfl rfl ?_
  refine AO.op (O.move rfl rfl) rfl rfl rfl ?_
  refine AO.opG rfl rfl rfl (fun hp => O.move rfl rfl) ?_
  refine AO.opG rfl rfl rfl (fun hp => O.move rfl rfl) ?_
  refine AO.opG rfl rfl rfl (fun hp => OpW.force 12 rfl (by exact hp) (O.lenR rfl rfl)) ?_
  refine AO.opG rfl rfl rfl (fun hp => OpW.force 11 rfl (by exact hp) (OpW.force 13 rfl (by exact hp) (O.lss rfl rfl rfl (by rfl)))) ?_
  refine AO.op (O.pickAnd rfl rfl rfl rfl (fun h => by exact h)) rfl rfl rfl ?_
  refine AO.nil ?_
  refine AQ.thenN ?_
  refine AW.split rfl (fun h => ?_) (fun h => ?_) <;> (try simp only [decide_eq_true_eq, decide_eq_false_iff_not, beq_iff_eq, beq_eq_false_iff_ne, bne_iff_ne, bne_eq_false_iff_eq, Bool.not_eq_true', Bool.not_eq_false', Bool.not_eq_true, Bool.not_eq_false, ne_eq, Int.not_lt, Int.not_le, Bool.and_eq_true, Bool.or_eq_true, Bool.or_eq_false_iff, Bool.and_eq_false_imp, strOf_toList, Decidable.not_not] at h)
  · skip
    have h3 : k < a.length := by omega
    have h4 : k < b.length := by omega
    rw [cmpB_step h3 h4] at hc
    refine AW.skip ?_
    refine AQ.thenN ?_
    refine AW.seq ?_
    refine AW.block ?_
    refine AW.seq ?_
    refine AW.regionD 9 (by kernel_rfl) (by kernel_rfl) ?_
    simp only [List.take_succ_cons, List.take_zero, List.drop_succ_cons, List.drop_zero]
    refine FA.op (O.move rfl rfl) rfl rfl rfl rfl ?_
    refine FA.op (O.move rfl rfl) rfl rfl rfl rfl ?_
    refine FA.op (O.idxR rfl rfl rfl ⟨(by omega), (by omega)⟩) rfl rfl rfl rfl ?_
    refine FA.op (O.loadR rfl rfl (by exact bt_at (by assumption) (by omega))) rfl rfl rfl rfl ?_
    refine FA.op (O.move rfl rfl) rfl rfl rfl rfl ?_
    refine FA.op (O.move rfl rfl) rfl rfl rfl rfl ?_
    refine FA.op (O.idxR rfl rfl rfl ⟨(by omega), (by omega)⟩) rfl rfl rfl rfl ?_
    refine FA.op (O.loadR rfl rfl (by exact bt_at (by assumption) (by omega))) rfl rfl rfl rfl ?_
    refine FA.op (O.neq rfl rfl rfl (by rfl)) rfl rfl rfl rfl ?_
    refine FA.nil ?_
    simp only [chosen, List.nil_append, List.cons_append, List.append_nil]
    refine AO.nil ?_
    refine AQ.thenN ?_
    refine AW.split rfl (fun h5 => ?_) (fun h5 => ?_) <;> (try simp only [decide_eq_true_eq, decide_eq_false_iff_not, beq_iff_eq, beq_eq_false_iff_ne, bne_iff_ne, bne_eq_false_iff_eq, Bool.not_eq_true', Bool.not_eq_false', Bool.not_eq_true, Bool.not_eq_false, ne_eq, Int.not_lt, Int.not_le, Bool.and_eq_true, Bool.or_eq_true, Bool.or_eq_false_iff, Bool.and_eq_false_imp, strOf_toList, Decidable.not_not] at h5)
    · skip
      rw [if_neg (fun e => h5 (by rw [e]))] at hc
      refine AW.seq ?_
      refine AW.seq ?_
      refine AW.regionD 9 (by kernel_rfl) (by kernel_rfl) ?_
      simp only [List.take_succ_cons, List.take_zero, List.drop_succ_cons, List.drop_zero]
      refine FA.op (O.move rfl rfl) rfl rfl rfl rfl ?_
      refine FA.op (O.move rfl rfl) rfl rfl rfl rfl ?_
      refine FA.op (O.idxR rfl rfl rfl ⟨(by omega), (by omega)⟩) rfl rfl rfl rfl ?_
      refine FA.op (O.loadR rfl rfl (by exact bt_at (by assumption) (by omega))) rfl rfl rfl rfl ?_
      refine FA.op (O.move rfl rfl) rfl rfl rfl rfl ?_
      refine FA.op (O.move rfl rfl) rfl rfl rfl rfl ?_
      refine FA.op (O.idxR rfl rfl rfl ⟨(by omega), (by omega)⟩) rfl rfl rfl rfl ?_
      refine FA.op (O.loadR rfl rfl (by exact bt_at (by assumption) (by omega))) rfl rfl rfl rfl ?_
      refine FA.op (O.lss rfl rfl rfl (by rfl)) rfl rfl rfl rfl ?_
      refine FA.nil ?_
      simp only [chosen, List.nil_append, List.cons_append, List.append_nil]
      refine AO.nil ?_
      refine AQ.thenN ?_
      refine AW.split rfl (fun h6 => ?_) (fun h6 => ?_) <;> (try simp only [decide_eq_true_eq, decide_eq_false_iff_not, beq_iff_eq, beq_eq_false_iff_ne, bne_iff_ne, bne_eq_false_iff_eq, Bool.not_eq_true', Bool.not_eq_false', Bool.not_eq_true, Bool.not_eq_false, ne_eq, Int.not_lt, Int.not_le, Bool.and_eq_true, Bool.or_eq_true, Bool.or_eq_false_iff, Bool.and_eq_false_imp, strOf_toList, Decidable.not_not] at h6)
      · skip
        rw [if_pos (by omega)] at hc
        refine AW.seq ?_
        refine AW.region ?_
        refine AO.op (O.assign rfl rfl) rfl rfl rfl ?_
        refine AO.nil ?_
        refine AQ.thenN ?_
        refine AW.ret ?_
        refine AQ.thenR ?_
        refine AQ.blockR ?_
        refine AQ.thenR ?_
        refine AQ.loopR ?_
        refine AQ.blockR ?_
        refine AQ.thenR ?_
        refine AQ.ret1 rfl rfl ⟨_, List.nil_sublist _, .nil⟩ (⟨congrArg (fun z => AV.val (.int .i64 z)) hc.symm, rfl⟩)
      · skip
        rw [if_neg (by omega)] at hc
        refine AW.skip ?_
        refine AQ.thenN ?_
        refine AW.seq ?_
        refine AW.region ?_
        refine AO.op (O.assign rfl rfl) rfl rfl rfl ?_
        refine AO.nil ?_
        refine AQ.thenN ?_
        refine AW.ret ?_
        refine AQ.blockR ?_
        refine AQ.thenR ?_
        refine AQ.loopR ?_
        refine AQ.blockR ?_
        refine AQ.thenR ?_
        refine AQ.ret1 rfl rfl ⟨_, List.nil_sublist _, .nil⟩ (⟨congrArg (fun z => AV.val (.int .i64 z)) hc.symm, rfl⟩)
    · skip
      rw [if_pos (u8_eq.1 h5)] at hc
      refine AW.skip ?_
      refine AQ.blockN ?_
      refine AQ.thenN ?_
      refine AW.region ?_
      refine AO.op (O.move rfl rfl) rfl rfl rfl ?_
      refine AO.op (O.add rfl rfl rfl (by exact wI64 (by omega))) rfl rfl rfl ?_
      refine AO.op (O.assign rfl rfl) rfl rfl rfl ?_
      refine AO.nil ?_
      refine AQ.loopKN _ _ _ (by omega) (⟨k + 1, by omega, by omega, hc, rfl, rfl, rfl⟩) (by repeat (first | exact envNil | refine envCons rfl ?_)) (by repeat (first | exact envNil | refine envCons rfl ?_)) (by repeat (exact subPnil))
  · skip
    rw [cmpB_end h1 h2 (fun _ => by omega)] at hc
    refine AW.exit ?_
    refine AQ.thenX ?_
    refine AQ.loopX ?_
    refine AQ.blockX rfl ?_
    refine AQ.thenN ?_
    refine AW.seq ?_
    refine AW.block ?_
    refine AW.seq ?_
    refine AW.region ?_
    refine AO.op (O.move rfl rfl) rfl rfl rfl ?_
    refine AO.op (O.lenR rfl rfl) rfl rfl rfl ?_
    refine AO.op (O.move rfl rfl) rfl rfl rfl ?_
    refine AO.op (O.lenR rfl rfl) rfl rfl rfl ?_
    refine AO.op (O.lss rfl rfl rfl (by rfl)) rfl rfl rfl ?_
    refine AO.op (O.assign rfl rfl) rfl rfl rfl ?_
    refine AO.nil ?_
    refine AQ.thenN ?_
    refine AW.split rfl (fun h5 => ?_) (fun h5 => ?_) <;> (try simp only [decide_eq_true_eq, decide_eq_false_iff_not, beq_iff_eq, beq_eq_false_iff_ne, bne_iff_ne, bne_eq_false_iff_eq, Bool.not_eq_true', Bool.not_eq_false', Bool.not_eq_true, Bool.not_eq_false, ne_eq, Int.not_lt, Int.not_le, Bool.and_eq_true, Bool.or_eq_true, Bool.or_eq_false_iff, Bool.and_eq_false_imp, strOf_toList, Decidable.not_not] at h5)
    · skip
      rw [if_pos (by omega)] at hc
      refine AW.seq ?_
      refine AW.region ?_
      refine AO.op (O.assign rfl rfl) rfl rfl rfl ?_
      refine AO.nil ?_
      refine AQ.thenN ?_
      refine AW.ret ?_
      refine AQ.blockR ?_
      refine AQ.thenR ?_
      refine AQ.ret1 rfl rfl ⟨_, List.nil_sublist _, .nil⟩ (⟨congrArg (fun z => AV.val (.int .i64 z)) hc.symm, rfl⟩)
    · skip
      rw [if_neg (by omega)] at hc
      refine AW.seq ?_
      refine AW.region ?_
      refine AO.op (O.move rfl rfl) rfl rfl rfl ?_
      refine AO.op (O.lenR rfl rfl) rfl rfl rfl ?_
      refine AO.op (O.move rfl rfl) rfl rfl rfl ?_
      refine AO.op (O.lenR rfl rfl) rfl rfl rfl ?_
      refine AO.op (O.gtr rfl rfl rfl (by rfl)) rfl rfl rfl ?_
      refine AO.op (O.assign rfl rfl) rfl rfl rfl ?_
      refine AO.nil ?_
      refine AQ.thenN ?_
      refine AW.split rfl (fun h6 => ?_) (fun h6 => ?_) <;> (try simp only [decide_eq_true_eq, decide_eq_false_iff_not, beq_iff_eq, beq_eq_false_iff_ne, bne_iff_ne, bne_eq_false_iff_eq, Bool.not_eq_true', Bool.not_eq_false', Bool.not_eq_true, Bool.not_eq_false, ne_eq, Int.not_lt, Int.not_le, Bool.and_eq_true, Bool.or_eq_true, Bool.or_eq_false_iff, Bool.and_eq_false_imp, strOf_toList, Decidable.not_not] at h6)
      · skip
        rw [if_pos (by omega)] at hc
        refine AW.seq ?_
        refine AW.region ?_
        refine AO.op (O.assign rfl rfl) rfl rfl rfl ?_
        refine AO.nil ?_
        refine AQ.thenN ?_
        refine AW.ret ?_
        refine AQ.blockR ?_
        refine AQ.thenR ?_
        refine AQ.ret1 rfl rfl ⟨_, List.nil_sublist _, .nil⟩ (⟨congrArg (fun z => AV.val (.int .i64 z)) hc.symm, rfl⟩)
      · skip
        rw [if_neg (by omega)] at hc
        refine AW.skip ?_
        refine AQ.blockN ?_
        refine AQ.thenN ?_
        refine AW.seq ?_
        refine AW.region ?_
        refine AO.op (O.assign rfl rfl) rfl rfl rfl ?_
        refine AO.nil ?_
        refine AQ.thenN ?_
        refine AW.ret ?_
        refine AQ.ret1 rfl rfl ⟨_, List.nil_sublist _, .nil⟩ (⟨congrArg (fun z => AV.val (.int .i64 z)) hc.symm, rfl⟩)

theorem equal26_fn (a b : List UInt8) : Sp Try.prog 32 [roB a, roB b] [] (Is (.val (.bool (a == b)))) := by
  refine Sp.enter Try.func32 rfl _ Try.ntmps32 rfl (fun w0 R0 => ?_)
  refine AW.seq ?_
  refine AW.region ?_
  refine AO.op (O.assign rfl rfl) rfl rfl rfl ?_
  refine AO.nil ?_
  refine AQ.thenN ?_
  refine AW.seq ?_
  refine AW.region ?_
  refine AO.op (O.move rfl rfl) rfl rfl rfl ?_
  refine AO.op (O.move rfl rfl) rfl rfl rfl ?_
  refine AO.op (O.call rfl Try.func40 rfl rfl rfl (compare_fn _ _)) rfl rfl rfl ?_
  refine AO.op (O.eql rfl rfl rfl (by rfl)) rfl rfl rfl ?_
  refine AO.op (O.move rfl rfl) rfl rfl rfl ?_
  refine AO.opG rfl rfl rfl (fun hp => O.move rfl rfl) ?_
  refine AO.opG rfl rfl rfl (fun hp => OpW.force 10 rfl (by exact hp) (O.lenR rfl rfl)) ?_
  refine AO.opG rfl rfl rfl (fun hp => O.move rfl rfl) ?_
  refine AO.opG rfl rfl rfl (fun hp => OpW.force 12 rfl (by exact hp) (O.lenR rfl rfl)) ?_
  refine AO.opG rfl rfl rfl (fun hp => OpW.force 11 rfl (by exact hp) (OpW.force 13 rfl (by exact hp) (O.eql rfl rfl rfl (by rfl)))) ?_
  refine AO.op (O.pickAnd rfl rfl rfl rfl (fun h => by exact h)) rfl rfl rfl ?_
  refine AO.op (O.assign rfl rfl) rfl rfl rfl ?_
  refine AO.nil ?_
  refine AQ.thenN ?_
  refine AW.ret ?_
  have e : ((cmpB a b == 0) && ((a.length : Int) == (b.length : Int))) = (a == b) := by
    rw [Bool.eq_iff_iff]
    simp only [Bool.and_eq_true, beq_iff_eq, cmpB_zero]
    constructor
    · exact fun h => h.1
    · rintro rfl; exact ⟨rfl, rfl⟩
  refine AQ.ret1 rfl rfl ⟨_, List.nil_sublist _, .nil⟩ (⟨congrArg (fun z => AV.val (.bool z)) e, rfl⟩)

/-- A number's bytes, the first not 0 unless it is the only one. -/
def beGo (n : Nat) (out : List UInt8) : List UInt8 := if h : n = 0 then out else beGo (n / 256) (u8 (n : Int) :: out)
termination_by n
decreasing_by omega
def pivB (n : Int) : List UInt8 := if n < 0 ∨ 1099511627775 < n then [] else beGo (n.toNat / 256) [u8 n]
/-- The same from the front: what is there behind the bytes of number 4, 3 .. -/
def rStep (n : Int) (s : Nat) (out : List UInt8) : List UInt8 := if 0 < out.length ∨ (u8 (n / 256 ^ s) ≠ 0) ∨ s = 0 then out ++ [u8 (n / 256 ^ s)] else out
def rGo (n : Int) : Nat → List UInt8
  | 0 => []
  | k + 1 => rStep n (4 - k) (rGo n k)
end Go.Proofs.Ytjgmedmakbjkdaa.By

namespace Go.Proofs.Ytjgmedmakbjkdaa.A
open Go.RowKit L
set_option linter.unusedVariables false
set_option linter.unusedSimpArgs false
section
variable {Γ : Cx} {P : Program} {Q : Exit → Act → World → Prop} {E : Env} {H : List HE}
theorem G.coeCell {X : Act → World → Prop} (j c : Nat) {b T' room : Nat} {ys : List AV} {u w : AV} (hj : H[j]? = some (.blk b T' room ys)) (hc : ys[c]? = some u) (hw : Coe u w)
    (k : G Γ E (H.set j (.blk b T' room (ys.set c w))) X) : G Γ E H X := fun R a W hs ha => by
  obtain ⟨us, cs, h1, h2, h3, h4⟩ := hs.ok _ (List.mem_of_getElem? hj)
  obtain ⟨z, hu1, hu2⟩ := h4.get hc
  refine k R a W (hs.setSame hj (fun b hb => hb) ⟨us, cs, h1, h2, by rw [List.length_set]; exact h3, ?_⟩) ha
  have h5 := h4.set c (hw R W _ hu2)
  rwa [show us.set c z = us from List.ext_getElem? fun q => by
    rcases Nat.decEq c q with h | h
    · rw [List.getElem?_set_ne h]
    · subst h; rw [List.getElem?_set_self (List.getElem?_eq_some_iff.1 hu1).1, hu1]] at h5
end
end Go.Proofs.Ytjgmedmakbjkdaa.A

namespace Go.Proofs.Ytjgmedmakbjkdaa.A
open Go.RowKit L
set_option linter.unusedVariables false
set_option linter.unusedSimpArgs false

section
variable {P : Program} {ops : Array Oper} {N : Nat}

/-- The state on the way. -/
structure MJ (P : Program) (Γ : Cx) (ops : Array Oper) (Hs : List HE) (K : Env → List HE → Prop) (ord : List (Nat × Bool)) (late : List Nat) (listed : Array Bool) (A : Act) (W : World) (pre ms : List (Nat × Bool)) (Pd : List Nat) (E : Env) (H : List HE) (R : Nat → Prop) : Prop where
  size : listed.size = ops.size
  closed : Closed ops listed
  part : ∀ i, i < ops.size → (listed.getD i false = false ↔ i ∈ Pd ∨ i ∈ ms.map Prod.fst ∨ i ∈ late)
  ord : ord = pre ++ ms
  pdp : ∀ i ∈ Pd, (i, false) ∈ pre
  am : AM P Γ.N ops Hs K ms E H
  pend : ∀ i ∈ Pd, ∃ o d v, ops[i]? = some o ∧ o.dst = some d ∧ d < Γ.N ∧ look E d = some v ∧ OpF P Γ.N ops o (rst E (o.looksAt ops)) Hs (Is v)
  rels : RelS Γ R (H ++ Hs) W
  defers : A.defers = []
  tmps : A.tmps.size = Γ.N
  act : ∀ t v, look E t = some v → (∀ i ∈ Pd, ∀ o, ops[i]? = some o → o.dst ≠ some t) → RelV R W v (A.eval (.tmp t))

variable {Γ : Cx} {Hs : List HE} {K : Env → List HE → Prop} {ord : List (Nat × Bool)} {late : List Nat}

/-- What reads is pending as soon as it may run. -/
theorem MJ.absorb {listed : Array Bool} {A : Act} {W : World} {R : Nat → Prop} (hok : ordPairs ops (ancs ops.toList []) ord = true) : ∀ (ms pre : List (Nat × Bool)) (Pd : List Nat) (E : Env) (H : List HE), MJ P Γ ops Hs K ord late listed A W pre ms Pd E H R →
    ∃ pre' ms' Pd' E', MJ P Γ ops Hs K ord late listed A W pre' ms' Pd' E' H R ∧ (ms' = [] ∨ ∃ m r, ms' = (m, true) :: r)
  | [], pre, Pd, E, H, h => ⟨pre, [], Pd, E, h, .inl rfl⟩
  | (m, true) :: r, pre, Pd, E, H, h => ⟨pre, _, Pd, E, h, .inr ⟨m, r, rfl⟩⟩
  | (j, false) :: r, pre, Pd, E, H, h => by
    obtain ⟨o, d, v, ho, hd, hN, hop, ham⟩ := h.am
    have hord := h.ord
    have hq := ordPairs_app (pre := pre) (r := (j, false) :: r) (by rw [← hord]; exact hok)
    have hself : d ∉ o.looksAt ops := by
      have := hq.1
      rw [ordPairs] at this
      simp only [Bool.and_eq_true, ho, hd, Bool.false_or] at this
      simpa using this.1.1
    have hp : ∀ i ∈ Pd, ∀ oi, ops[i]? = some oi → d ∉ oi.looksAt ops ∧ oi.dst ≠ some d := fun i hi oi hoi => by
      have := pairOk (hq.2 _ (h.pdp i hi) (j, false) (List.mem_cons_self ..)) hoi ho
      obtain ⟨d', h1, h2, h3⟩ := this.flt rfl
      rw [hd] at h1
      cases h1
      exact ⟨h2, h3⟩
    refine MJ.absorb hok r (pre ++ [(j, false)]) (j :: Pd) ((d, v) :: E) H ⟨h.size, h.closed, fun i hi => ?_, by rw [hord]; simp, fun i hi => ?_, ham, fun i hi => ?_, h.rels, h.defers, h.tmps, fun t x ht hpd => ?_⟩
    · rw [h.part i hi]
      simp only [List.map_cons, List.mem_cons]
      constructor
      · rintro (h | (h | h) | h)
        · exact .inl (.inr h)
        · exact .inl (.inl h)
        · exact .inr (.inl h)
        · exact .inr (.inr h)
      · rintro ((h | h) | h | h)
        · exact .inr (.inl (.inl h))
        · exact .inl h
        · exact .inr (.inl (.inr h))
        · exact .inr (.inr h)
    · rcases List.mem_cons.1 hi with rfl | hi
      · simp
      · exact List.mem_append_left _ (h.pdp i hi)
    · rcases List.mem_cons.1 hi with rfl | hi
      · exact ⟨o, d, v, ho, hd, hN, look_here, by rw [rst_skip hself]; exact hop⟩
      · obtain ⟨oi, di, vi, h1, h2, h3, h4, h5⟩ := h.pend i hi
        obtain ⟨h6, h7⟩ := hp i hi oi h1
        refine ⟨oi, di, vi, h1, h2, h3, ?_, by rw [rst_skip h6]; exact h5⟩
        rw [look_skip (fun e => h7 (by rw [h2, e]))]; exact h4
    · have hne : d ≠ t := fun e => hpd j (List.mem_cons_self ..) o ho (by rw [hd, e])
      rw [look_skip hne] at ht
      exact h.act t x ht fun i hi => hpd i (List.mem_cons_of_mem _ hi)

theorem MJ.reads {listed : Array Bool} {A : Act} {W : World} {R : Nat → Prop} {pre ms : List (Nat × Bool)} {Pd : List Nat} {E : Env} {H : List HE} (hok : ordPairs ops (ancs ops.toList []) ord = true) (h : MJ P Γ ops Hs K ord late listed A W pre ms Pd E H R)
    {i : Nat} {b : Bool} {o : Oper} (ho : ops[i]? = some o) (hdeps : ∀ e ∈ o.after, Region.binds .any e = true → listed.getD e.on false = true) (hi : (i, b) ∈ pre ∧ i ∈ Pd ∧ b = false ∨ ∃ r, ms = (i, b) :: r) : RelA Γ.N R W (rst E (o.looksAt ops)) A := by
  refine ⟨h.defers, h.tmps, fun t v ht => ?_⟩
  obtain ⟨htl, ht⟩ := look_rst ht
  refine h.act t v ht fun k hk ok hok' hdk => ?_
  have hkp := h.pdp k hk
  have hkf : listed.getD k false = false := (h.part k (Array.getElem?_eq_some_iff.1 hok').1).2 (.inl hk)
  have direct : ordPair ops (ancs ops.toList []) k false i b = true → False := fun hp => by
    obtain ⟨e, he, hb, hon⟩ := (pairOk hp hok' ho).reads t hdk htl
    have := hdeps e he hb
    rw [hon, hkf] at this; cases this
  rcases hi with ⟨hip, hiP, rfl⟩ | ⟨r, hms⟩
  · -- both ahead
    obtain ⟨p1, p2, hp12⟩ := List.append_of_mem hkp
    have hord := h.ord
    rw [hp12, List.append_assoc] at hord
    rw [hp12] at hip
    rcases List.mem_append.1 hip with hip | hip
    · -- i ahead of k
      have hq := ordPairs_app (pre := p1) (by rw [← hord]; exact hok)
      have := pairOk (hq.2 _ hip (k, false) (List.mem_cons_self ..)) ho hok'
      obtain ⟨d', h1, h2, -⟩ := this.flt rfl
      rw [hdk] at h1; cases h1
      exact h2 htl
    · rcases List.mem_cons.1 hip with he | hip
      · cases he
        -- itself
        have hq := (ordPairs_app (pre := p1) (by rw [← hord]; exact hok)).1
        rw [List.cons_append, ordPairs] at hq
        simp only [Bool.and_eq_true] at hq
        obtain rfl : o = ok := by rw [ho] at hok'; exact Option.some.inj hok'
        have := hq.1.1
        rw [ho] at this
        simp only [hdk, Bool.false_or] at this
        simp at this
        exact this htl
      · rw [show p1 ++ ((k, false) :: p2 ++ ms) = (p1 ++ [(k, false)]) ++ (p2 ++ ms) by simp] at hord
        have hq := ordPairs_app (pre := p1 ++ [(k, false)]) (by rw [← hord]; exact hok)
        exact direct (hq.2 (k, false) (by simp) (i, false) (List.mem_append_left _ hip))
  · have hq := ordPairs_app (pre := pre) (r := ms) (by rw [← h.ord]; exact hok)
    exact direct (hq.2 _ hkp (i, b) (by rw [hms]; exact List.mem_cons_self ..))

/-- One stage. -/
theorem MJ.stage {Q : Exit → Act → World → Prop} (hback : ∀ i o, ops[i]? = some o → ∀ e ∈ o.after, Region.binds .any e = true → e.on < i) (hpairs : ordPairs ops (ancs ops.toList []) ord = true) (hlt : ∀ q ∈ ord, q.1 < ops.size)
    (hlate : ∀ j ∈ late, ∀ q ∈ ord, q.1 ∈ (ancs ops.toList []).getD j [])
    (hfin : ∀ (listed : Array Bool) (A : Act) (W : World) (E : Env) (H : List HE) (R : Nat → Prop), listed.size = ops.size → Closed ops listed → (∀ i, i < ops.size → (listed.getD i false = false ↔ i ∈ late)) → RelS Γ R (H ++ Hs) W → RelA Γ.N R W E A → K E H → wpAny P .any ops Q (listed.toList.count false) listed A W) :
    ∀ (fuel : Nat) (listed : Array Bool) (A : Act) (W : World) (pre ms : List (Nat × Bool)) (Pd : List Nat) (E : Env) (H : List HE) (R : Nat → Prop), fuel = listed.toList.count false →
      MJ P Γ ops Hs K ord late listed A W pre ms Pd E H R → (ms = [] ∨ ∃ m r, ms = (m, true) :: r) → wpAny P .any ops Q fuel listed A W := by
  intro fuel
  induction fuel with
  | zero =>
    intro listed A W pre ms Pd E H R hc hI hhd
    have hlist : ∀ i, i < ops.size → listed.getD i false = true := by
      intro i hi
      have hi' : i < listed.size := by rw [hI.size]; exact hi
      cases hb : listed.getD i false with
      | true => rfl
      | false =>
        exfalso
        have hm : false ∈ listed.toList := by
          rw [← hb]; simp [Array.getD, hi']
        have := List.count_pos_iff.2 hm
        omega
    have hms : ms = [] := by
      rcases hhd with h | ⟨m, r, h⟩
      · exact h
      · have h1 := hlt (m, true) (by rw [hI.ord, h]; simp)
        have := (hI.part m h1).2 (.inr (.inl (by rw [h]; simp)))
        rw [hlist m h1] at this; cases this
    have hPd : Pd = [] := by
      rw [List.eq_nil_iff_forall_not_mem]
      intro i hi
      have h1 := hlt (i, false) (by rw [hI.ord]; exact List.mem_append_left _ (hI.pdp i hi))
      have := (hI.part i h1).2 (.inl hi)
      rw [hlist i h1] at this; cases this
    subst hms
    subst hPd
    rw [hc]
    exact hfin listed A W E H R hI.size hI.closed (fun i hi => by rw [hI.part i hi]; simp) hI.rels ⟨hI.defers, hI.tmps, fun t v ht => hI.act t v ht fun i hi => (by cases hi)⟩ hI.am
  | succ fuel ih =>
    intro listed A W pre ms Pd E H R hc hI hhd
    by_cases hemp : ms = [] ∧ Pd = []
    · obtain ⟨rfl, rfl⟩ := hemp
      rw [hc]
      exact hfin listed A W E H R hI.size hI.closed (fun i hi => by rw [hI.part i hi]; simp) hI.rels ⟨hI.defers, hI.tmps, fun t v ht => hI.act t v ht fun i hi => (by cases hi)⟩ hI.am
    have hun : ∃ q ∈ ord, listed.getD q.1 false = false := by
      rcases hhd with h | ⟨m, r, h⟩
      · cases Pd with
        | nil => exact absurd ⟨h, rfl⟩ hemp
        | cons p Pd =>
          have h1 : (p, false) ∈ ord := by rw [hI.ord]; exact List.mem_append_left _ (hI.pdp p (List.mem_cons_self ..))
          exact ⟨_, h1, (hI.part p (hlt _ h1)).2 (.inl (List.mem_cons_self ..))⟩
      · have h1 : (m, true) ∈ ord := by rw [hI.ord, h]; simp
        exact ⟨_, h1, (hI.part m (hlt _ h1)).2 (.inr (.inl (by rw [h]; simp)))⟩
    have hne : ∃ i, i ∈ Region.ready .any ops listed := by
      have hex : ∃ i, i < ops.size ∧ listed.getD i false = false := by
        have hpos : 0 < listed.toList.count false := by omega
        obtain ⟨i, hi, hf⟩ := List.getElem_of_mem (List.count_pos_iff.1 hpos)
        have hi' : i < listed.size := by simpa using hi
        exact ⟨i, by rw [← hI.size]; exact hi', by simpa [Array.getD, hi'] using hf⟩
      obtain ⟨i, ⟨hi, hf⟩, hmin⟩ : ∃ i, (i < ops.size ∧ listed.getD i false = false) ∧ ∀ j, j < i → ¬ (j < ops.size ∧ listed.getD j false = false) := by
        obtain ⟨i, h⟩ := hex
        exact least ⟨i, h⟩
      have hio : ops[i]? = some ops[i] := by simp [hi]
      refine ⟨i, mem_ready.2 ⟨by rw [getD_tf (by rw [hI.size]; exact hi)]; exact hf, _, hio, fun e he hb => ?_⟩⟩
      have := hback i _ hio e he hb
      cases hb2 : listed.getD e.on false with
      | true => rfl
      | false => exact absurd ⟨by omega, hb2⟩ (hmin e.on this)
    refine ⟨fun e => (by obtain ⟨i, hi⟩ := hne; rw [e] at hi; cases hi), fun i hi => ?_⟩
    obtain ⟨h0, o, ho, hdeps⟩ := mem_ready.1 hi
    have hio : i < ops.size := (Array.getElem?_eq_some_iff.1 ho).1
    have hf : listed.getD i false = false := by rw [← getD_tf (by rw [hI.size]; exact hio)]; exact h0
    have hil : i < listed.size := by rw [hI.size]; exact hio
    have hanc : ∀ j, j ∈ (ancs ops.toList []).getD i [] → listed.getD j false = true := fun j hj => anc_listed hI.closed hback i o ho hdeps j hj
    have hcl := closed_set hI.closed ho hil hdeps
    have hcnt : fuel = (listed.setIfInBounds i true).toList.count false := by
      have hcs := count_set_true listed.toList i (by simpa using hil) (by simpa [Array.getD, hil] using hf)
      simp only [Array.toList_setIfInBounds]
      omega
    have hgd : ∀ k, k ≠ i → (listed.setIfInBounds i true).getD k false = listed.getD k false := fun k hk => getD_set_ne false (Ne.symm hk)
    have hgi : (listed.setIfInBounds i true).getD i false = true := by simp [Array.getD, hil]
    have hsz : (listed.setIfInBounds i true).size = ops.size := by simpa using hI.size
    have hnl : i ∉ late := fun h => by
      obtain ⟨q, hq, hqf⟩ := hun
      have := hanc q.1 (hlate i h q hq)
      rw [hqf] at this; cases this
    rcases (hI.part i hio).1 hf with hPd | hms | hlt'
    · -- one that reads
      obtain ⟨o', d, v, ho', hd, hN, hlk, hop⟩ := hI.pend i hPd
      obtain rfl : o = o' := by rw [ho] at ho'; exact Option.some.inj ho'
      have hA := hI.reads hpairs ho hdeps (b := false) (.inl ⟨hI.pdp i hPd, hPd, rfl⟩)
      have hs := hop R A W hI.rels.rlt (fun e he => hI.rels.ok e (List.mem_append_right _ he)) (fun e he b hb => (hI.rels.own e (List.mem_append_right _ he) b hb).2) hA
      have hnext : ∀ u W', (∃ v' Hn R', Is v v' Hn ∧ Post1 R W v' Hn u W' R') → wpAny P .any ops Q fuel (listed.setIfInBounds i true) (A.put o.dst u) W' := by
        rintro u W' ⟨v', Hn, R', ⟨rfl, rfl⟩, hp⟩
        have hnm : i ∉ ms.map Prod.fst := fun hm => by
          obtain ⟨⟨j, c⟩, hq, hji⟩ := List.mem_map.1 hm
          have hq2 := (ordPairs_app (pre := pre) (r := ms) (by rw [← hI.ord]; exact hpairs)).2 _ (hI.pdp i hPd) _ hq
          simp only at hji
          subst hji
          exact (pairOk hq2 ho ho).ne rfl
        refine ih _ _ _ pre ms (Pd.filter (· ≠ i)) E H R' hcnt ⟨hsz, hcl, fun k hk => ?_, hI.ord, fun k hk => hI.pdp k (List.mem_filter.1 hk).1, hI.am, fun k hk => hI.pend k (List.mem_filter.1 hk).1, by simpa using hI.rels.step hp, ?_, ?_, fun t x ht hpd => ?_⟩ hhd
        · by_cases hki : k = i
          · subst hki
            rw [hgi]
            simp [hnm, hnl]
          · rw [hgd k hki, hI.part k hk]
            simp [hki]
        · rw [hd]; exact hI.defers
        · rw [hd]; simp [Act.put, hI.tmps]
        · rw [hd]
          by_cases hdt : d = t
          · subst hdt
            rw [hlk] at ht
            cases ht
            rw [eval_put_same (by rw [hI.tmps]; exact hN)]; exact hp.val
          · rw [eval_put_other hdt]
            refine (hI.act t x ht fun k hk ok hok hdk => ?_).mono hp.sub (extSame hp.ext hI.rels.rlt)
            by_cases hki : k = i
            · subst hki
              rw [ho] at hok
              cases hok
              rw [hd] at hdk
              cases hdk
              exact hdt rfl
            · exact hpd k (List.mem_filter.2 ⟨hk, by simpa using hki⟩) ok hok hdk
      unfold wpOp
      rw [ho]
      unfold FStep at hs
      show if Region.wanted o (yielded ops A.tmps) = true then _ else _
      split
      · rename_i hw
        rw [if_pos hw] at hs
        refine .inl (Oper.wp_mono ?_ (wp_of_noQ hs))
        rintro A' W' ⟨u, rfl, hp⟩
        exact hnext u W' hp
      · rename_i hw
        rw [if_neg hw] at hs
        exact hnext _ _ hs
    · -- the next that writes
      rcases hhd with rfl | ⟨m, r, rfl⟩
      · cases hms
      have hmlt : m < ops.size := by have := hlt (m, true) (by rw [hI.ord]; simp); exact this
      have hmf : listed.getD m false = false := (hI.part m hmlt).2 (.inr (.inl (by simp)))
      have him : i = m := by
        rcases List.mem_cons.1 hms with h | h
        · exact h
        · exfalso
          obtain ⟨⟨j, c⟩, hq, hji⟩ := List.mem_map.1 h
          simp only at hji
          subst hji
          have h9 := (ordPairs_app (pre := pre ++ [(m, true)]) (r := r) (by have := hI.ord; rw [List.append_assoc, List.singleton_append, ← this]; exact hpairs)).2 (m, true) (by simp) _ hq
          have hom : ops[m]? = some ops[m] := by simp [hmlt]
          have := hanc m ((pairOk h9 hom ho).main rfl)
          rw [hmf] at this; cases this
      subst him
      obtain ⟨o', ho', hAO⟩ := hI.am
      obtain rfl : o = o' := by rw [ho] at ho'; exact Option.some.inj ho'
      have hA := hI.reads hpairs ho hdeps (b := true) (.inr ⟨r, rfl⟩)
      have hs := hAO W R R A W ⟨Mods.refl _ _, hI.rels.rlt, fun _ h => h, fun _ h => .inl h, fun e he => hI.rels.ok e (List.mem_append_left _ he), fun e he b hb => ⟨.inr ⟨e, he, hb⟩, (hI.rels.own e (List.mem_append_left _ he) b hb).2⟩, (List.pairwise_append.1 hI.rels.disj).1⟩ hA
      have hnext : ∀ u W', QS ⟨W, footOf H, R, Γ.N⟩ o.dst (fun v H' => AM P Γ.N ops Hs K r (putE o.dst v E) H') .normal (A.put o.dst u) W' → wpAny P .any ops Q fuel (listed.setIfInBounds i true) (A.put o.dst u) W' := by
        rintro u W' ⟨hdf, v, H', R', ham, hsr, hvr⟩
        obtain ⟨hrel, hRW⟩ := RelS.part hI.rels hsr
        have hpd : ∀ k ∈ Pd, ∀ ok, ops[k]? = some ok → ∀ d, o.dst = some d → d ∉ ok.looksAt ops ∧ ok.dst ≠ some d := fun k hk ok hok d hd => by
          have h9 := (ordPairs_app (pre := pre) (r := (i, true) :: r) (by rw [← hI.ord]; exact hpairs)).2 _ (hI.pdp k hk) (i, true) (List.mem_cons_self ..)
          have hkf : listed.getD k false = false := (hI.part k (Array.getElem?_eq_some_iff.1 hok).1).2 (.inl hk)
          have hno : k ∉ (ancs ops.toList []).getD i [] := fun hm => by
            have := hanc k hm
            rw [hkf] at this; cases this
          exact ⟨fun hm => hno ((pairOk h9 hok ho).mn rfl d hd (.inl hm)), fun he => hno ((pairOk h9 hok ho).mn rfl d hd (.inr he))⟩
        have hnr : i ∉ r.map Prod.fst := fun hm => by
          obtain ⟨⟨j, c⟩, hq, hji⟩ := List.mem_map.1 hm
          have h9 := (ordPairs_app (pre := pre ++ [(i, true)]) (r := r) (by have := hI.ord; rw [List.append_assoc, List.singleton_append, ← this]; exact hpairs)).2 (i, true) (by simp) _ hq
          simp only at hji
          subst hji
          exact (pairOk h9 ho ho).ne rfl
        have hnp : i ∉ Pd := fun hk => by
          have h9 := (ordPairs_app (pre := pre) (r := (i, true) :: r) (by rw [← hI.ord]; exact hpairs)).2 _ (hI.pdp i hk) (i, true) (List.mem_cons_self ..)
          exact (pairOk h9 ho ho).ne rfl
        have hI' : MJ P Γ ops Hs K ord late (listed.setIfInBounds i true) (A.put o.dst u) W' (pre ++ [(i, true)]) r Pd (putE o.dst v E) H' R' := by
          refine ⟨hsz, hcl, fun k hk => ?_, by rw [hI.ord]; simp, fun k hk => List.mem_append_left _ (hI.pdp k hk), ham, fun k hk => ?_, hrel, hdf, ?_, fun t x ht hp => ?_⟩
          · by_cases hki : k = i
            · subst hki
              rw [hgi]
              simp [hnr, hnp, hnl]
            · rw [hgd k hki, hI.part k hk]
              simp [hki]
          · obtain ⟨ok, dk, vk, h1, h2, h3, h4, h5⟩ := hI.pend k hk
            refine ⟨ok, dk, vk, h1, h2, h3, ?_, ?_⟩
            · cases hd : o.dst with
              | none => exact h4
              | some d => rw [putE, look_skip (fun e => (hpd k hk ok h1 d hd).2 (by rw [h2, e]))]; exact h4
            · cases hd : o.dst with
              | none => exact h5
              | some d => rw [putE, rst_skip (hpd k hk ok h1 d hd).1]; exact h5
          · cases hd : o.dst <;> simp [Act.put, hI.tmps]
          · cases hd : o.dst with
            | none =>
              rw [hd] at ht
              exact (hI.act t x ht hp).mono hsr.rsub hRW
            | some d =>
              rw [hd, putE] at ht
              by_cases hdt : d = t
              · subst hdt
                rw [look_here] at ht
                cases ht
                have := hvr d hd
                rwa [hd] at this
              · rw [look_skip hdt] at ht
                rw [eval_put_other hdt]
                exact (hI.act t x ht hp).mono hsr.rsub hRW
        obtain ⟨pre', ms', Pd', E', hI2, hh2⟩ := hI'.absorb hpairs
        exact ih _ _ _ pre' ms' Pd' E' H' R' hcnt hI2 hh2
      unfold wpOp
      rw [ho]
      unfold wpList at hs
      show if Region.wanted o (yielded ops A.tmps) = true then _ else _
      split
      · rename_i hw
        rw [if_pos hw] at hs
        refine .inl ?_
        rcases hs with hs | ⟨-, a', w', hl⟩
        · have hs2 : o.wp P A W (wpList P ops (QS ⟨W, footOf H, R, Γ.N⟩ o.dst (fun v H' => AM P Γ.N ops Hs K r (putE o.dst v E) H')) []) NoQ := by
            unfold Oper.wp at hs ⊢
            revert hs
            cases (execOp A.eval o).run P W with
            | ok n w' =>
              cases n with
              | enter f args =>
                intro hs
                refine Calls.mono hs ?_
                intro e w'' he
                cases e with
                | returned v => exact he
                | outgrown => obtain ⟨a', w', hl⟩ := he; exact hl.elim
                | _ => exact he.elim
              | _ => exact fun h => h
            | halt x w' => cases x <;> exact fun h => h
          refine Oper.wp_mono ?_ (wp_of_noQ (Oper.wp_put hs2))
          rintro A' W' ⟨hq, hA'⟩
          have hq' : QS ⟨W, footOf H, R, Γ.N⟩ o.dst (fun v H' => AM P Γ.N ops Hs K r (putE o.dst v E) H') .normal A' W' := hq
          rcases hA' with ⟨u, rfl⟩ | hnd
          · exact hnext u W' hq'
          · exact absurd hq'.1 hnd
        · exact hl.elim
      · rename_i hw
        rw [if_neg hw] at hs
        exact hnext _ _ hs
    · exact absurd hlt' hnl

/-- Operations in stages. -/
def AMS (P : Program) (N : Nat) (ops : Array Oper) (K : Env → List HE → Prop) : List (List (Nat × Bool)) → Env → List HE → Prop
  | [], E, H => K E H
  | ord :: r, E, H => ∃ Hm Hs, SplitH E H Hm Hs ∧ AM P N ops Hs (fun E' H' => AMS P N ops K r E' (H' ++ Hs)) ord E Hm
theorem AMS.nil {E : Env} {H : List HE} (h : K E H) : AMS P N ops K [] E H := h
def stagesOk (ops : Array Oper) (an : List (List Nat)) : List (List (Nat × Bool)) → Bool
  | [] => true
  | ord :: r => ordPairs ops an ord && (ord.all fun q => decide (q.1 < ops.size)) && (r.all fun s => s.all fun j => ord.all fun q => (an.getD j.1 []).contains q.1) && stagesOk ops an r
def stagesAll (ops : Array Oper) (os : List (List (Nat × Bool))) : Bool :=
  ((List.range ops.size).all fun i => os.any fun ord => ord.any fun q => q.1 == i) &&
  ((List.range ops.size).all fun i => (ops[i]?).all fun o => o.after.all fun e => !Region.binds .any e || decide (e.on < i)) && stagesOk ops (ancs ops.toList []) os
theorem AMS.run {Q : Exit → Act → World → Prop} (hback : ∀ i o, ops[i]? = some o → ∀ e ∈ o.after, Region.binds .any e = true → e.on < i) : ∀ (os : List (List (Nat × Bool))), stagesOk ops (ancs ops.toList []) os = true →
    ∀ (listed : Array Bool) (A : Act) (W : World) (E : Env) (H : List HE) (R : Nat → Prop), listed.size = ops.size → Closed ops listed → (∀ i, i < ops.size → (listed.getD i false = false ↔ i ∈ (os.flatten).map Prod.fst)) → RelS Γ R H W → RelA Γ.N R W E A →
      AMS P Γ.N ops (fun E' H' => AQ Γ Q .normal E' H') os E H → wpAny P .any ops Q (listed.toList.count false) listed A W
  | [], _, listed, A, W, E, H, R, hsz, hcl, hpt, hs, ha, h => by
    have hlist : ∀ i, i < ops.size → listed.getD i false = true := by
      intro i hi
      cases hb : listed.getD i false with
      | true => rfl
      | false => have := (hpt i hi).1 hb; cases this
    have h0 : listed.toList.count false = 0 := by
      rw [List.count_eq_zero]
      intro hm
      obtain ⟨i, hi, hf⟩ := List.getElem_of_mem hm
      have hi' : i < listed.size := by simpa using hi
      have := hlist i (by rw [← hsz]; exact hi')
      rw [show listed.getD i false = listed[i] by simp [Array.getD, hi']] at this
      rw [show listed.toList[i] = listed[i] by simp, this] at hf
      cases hf
    rw [h0]
    refine ⟨?_, h R A W hs ha⟩
    rw [List.eq_nil_iff_forall_not_mem]
    intro i hi
    obtain ⟨h0, o, ho, _⟩ := mem_ready.1 hi
    have hi' : i < ops.size := (Array.getElem?_eq_some_iff.1 ho).1
    have := hlist i hi'
    rw [← getD_tf (by rw [hsz]; exact hi')] at this
    rw [this] at h0; cases h0
  | ord :: os, hok, listed, A, W, E, H, R, hsz, hcl, hpt, hs, ha, h => by
    rw [stagesOk] at hok
    simp only [Bool.and_eq_true, List.all_eq_true, decide_eq_true_eq, List.contains_eq_mem] at hok
    obtain ⟨⟨⟨hp, hlt⟩, hlate⟩, hrest⟩ := hok
    obtain ⟨Hm, Hs, hH, hAM⟩ := h
    have hI : MJ P Γ ops Hs (fun E' H' => AMS P Γ.N ops (fun E' H' => AQ Γ Q .normal E' H') os E' (H' ++ Hs)) ord (os.flatten.map Prod.fst) listed A W [] ord [] E Hm R := by
      refine ⟨hsz, hcl, fun i hi => ?_, rfl, fun i hi => (by cases hi), hAM, fun i hi => (by cases hi), hs.perm hH.symm, ha.defers, ha.size, fun t v ht _ => ha.slots t v ht⟩
      rw [hpt i hi]
      simp
    obtain ⟨pre', ms', Pd', E', hI2, hh2⟩ := hI.absorb hp
    refine MJ.stage hback hp hlt (fun j hj q hq => ?_) (fun listed A W E H R h1 h2 h3 h4 h5 h6 => AMS.run hback os hrest listed A W E _ R h1 h2 h3 h4 h5 h6) _ listed A W pre' ms' Pd' E' Hm R rfl hI2 hh2
    obtain ⟨x, hx, rfl⟩ := List.mem_map.1 hj
    obtain ⟨s, hs1, hs2⟩ := List.mem_flatten.1 hx
    exact hlate s hs1 x hs2 q hq
end
end Go.Proofs.Ytjgmedmakbjkdaa.A

namespace Go.Proofs.Ytjgmedmakbjkdaa.A
open Go.RowKit L
set_option linter.unusedVariables false
set_option linter.unusedSimpArgs false
section
variable {Γ : Cx} {P : Program} {ops : Array Oper} {Q : Exit → Act → World → Prop} {E : Env} {H : List HE} {o : Oper} {rest : List Oper}
end
end Go.Proofs.Ytjgmedmakbjkdaa.A

namespace Go.Proofs.Ytjgmedmakbjkdaa.A
open Go.RowKit L
set_option linter.unusedVariables false
set_option linter.unusedSimpArgs false
section
variable {P : Program} {E : Env} {H : List HE} {N : Nat} {o : Oper}
end
end Go.Proofs.Ytjgmedmakbjkdaa.A

namespace Go.Proofs.Ytjgmedmakbjkdaa.A
open Go.RowKit L
set_option linter.unusedVariables false
set_option linter.unusedSimpArgs false
section
variable {Γ : Cx} {P : Program} {Q : Exit → Act → World → Prop} {E : Env} {H : List HE} {N : Nat} {o : Oper} {ops : Array Oper} {rest : List Oper}
theorem CoeL.app {a b x y : List AV} (h : CoeL a b) (k : CoeL x y) : CoeL (a ++ x) (b ++ y) := fun R W us hu => by
  induction a generalizing b us with
  | nil =>
    have hb : b = [] := by
      have := (h R W [] RelL.nil).1
      exact List.eq_nil_of_length_eq_zero this.symm
    subst hb
    exact k R W us hu
  | cons u a ih =>
    have h1 : us.take (a.length + 1) ++ us.drop (a.length + 1) = us := List.take_append_drop ..
    have h2 := hu.take (a.length + 1)
    have h3 := hu.drop (a.length + 1)
    rw [show ((u :: a) ++ x).take (a.length + 1) = u :: a by simp] at h2
    rw [show ((u :: a) ++ x).drop (a.length + 1) = x by simp] at h3
    rw [← h1]
    exact RelL.app (h R W _ h2) (k R W _ h3)
theorem Coe.ro {full : Bool} {n : Nat} {xs ys : List AV} (h : CoeL xs ys) : Coe (.ro full n xs) (.ro full n ys) := fun R W u hu => by
  cases hu with
  | emp _ a cap h1 h2 =>
    have hy : ys = [] := List.eq_nil_of_length_eq_zero (h R W [] RelL.nil).1.symm
    subst hy
    exact .emp _ a cap h1 h2
  | ro _ _ _ b off cap us hb hc hr h1 h2 h3 =>
    have hl : RelL R W xs ((List.range xs.length).map us) := ⟨by simp, fun j hj => by simpa [hj] using hr j hj⟩
    have hk := h R W _ hl
    have he : ys.length = xs.length := by have := hk.1; simpa using this.symm
    refine .ro _ _ _ b off cap us hb (fun j hj => hc j (by omega)) (fun j hj => ?_) h1 h2 h3
    have := hk.2 j hj
    rw [he] at hj
    simpa [hj] using this
/-- A literal whose elements are all given, in order. -/
def seqA (k : Nat) : Nat → List (Nat × AV) → Option (List AV)
  | _, [] => some []
  | i, (j, v) :: r => bif Nat.beq j i && Nat.beq v.cells.length k then (match seqA k (i + 1) r with | some ys => some (v.cells ++ ys) | none => none) else none
theorem splice_pre : ∀ (cs pre zs : List AV), cs.length ≤ zs.length → splice (pre ++ zs) pre.length cs = pre ++ cs ++ zs.drop cs.length
  | [], pre, zs, h => by simp [splice]
  | c :: cs, pre, [], h => by simp at h
  | c :: cs, pre, z :: zs, h => by
    rw [splice, show (pre ++ z :: zs).set pre.length c = (pre ++ [c]) ++ zs by simp, show pre.length + 1 = (pre ++ [c]).length by simp, splice_pre cs (pre ++ [c]) zs (by simpa using h)]
    simp
theorem fill_seq {k : Nat} : ∀ (ps : List (Nat × AV)) (i : Nat) (pre zs ys : List AV), seqA k i ps = some ys → pre.length = i * k → zs.length = ps.length * k → fillA (fun i => some (i * k, k)) (pre ++ zs) ps = some (pre ++ ys)
  | [], i, pre, zs, ys, h, h1, h2 => by
    have : zs = [] := List.eq_nil_of_length_eq_zero (by simpa using h2)
    subst this
    cases h
    rfl
  | (j, v) :: r, i, pre, zs, ys, h, h1, h2 => by
    rw [seqA] at h
    cases hc : (Nat.beq j i && Nat.beq v.cells.length k) with
    | false => rw [hc] at h; cases h
    | true =>
      rw [hc] at h
      simp only [Bool.and_eq_true] at hc
      have hj := Nat.eq_of_beq_eq_true hc.1
      have hk := Nat.eq_of_beq_eq_true hc.2
      subst hj
      cases hr : seqA k (j + 1) r with
      | none => rw [hr] at h; cases h
      | some ys' =>
        rw [hr] at h
        cases h
        have hz : v.cells.length ≤ zs.length := by rw [h2, hk, List.length_cons, Nat.add_mul]; omega
        unfold fillA
        simp only
        have hb : (Nat.beq v.cells.length k && Nat.ble (j * k + v.cells.length) (pre ++ zs).length) = true := by
          simp only [Bool.and_eq_true]
          exact ⟨hc.2, Nat.ble_eq_true_of_le (by rw [List.length_append, h1]; omega)⟩
        rw [hb]
        show fillA _ (splice (pre ++ zs) (j * k) v.cells) r = _
        rw [← h1, splice_pre _ _ _ hz]
        have := fill_seq r (j + 1) (pre ++ v.cells) (zs.drop v.cells.length) ys' hr (by rw [List.length_append, h1, hk, Nat.add_mul]; omega) (by rw [List.length_drop, h2, hk, List.length_cons, Nat.add_mul]; omega)
        rw [this, List.append_assoc]
theorem O.buildSliceF {T U k bs n : Nat} {z : Value} {parts : List (Nat × Operand)} {ps : List (Nat × AV)} {ys : List AV} [hs : TyS P T U k bs z] (ho : o.op = .buildSlice T n parts.toArray) (hx : evp E parts = some ps) (h1 : vals1 ps = true)
    (hsm : Nat.ble (n * k) 16777216 = true) (hpos : Nat.ble 1 (n * k) = true) (hzk : Nat.beq z.cells.size k = true) (hn : Nat.beq ps.length n = true) (hy : seqA k 0 ps = some ys) : OpW P N o E H (NewBlk (fun b => .val (.slice (some ⟨b, 0, none⟩) n n)) U (n * k) ys) :=
  O.buildSlice ho hx h1 hsm hpos hzk (by
    have := fill_seq ps 0 [] (zerosA n z) ys hy (by simp) (by
      have hzl : (z.cells.toList.map AV.val).length = k := by rw [List.length_map, Array.length_toList]; exact Nat.eq_of_beq_eq_true hzk
      rw [Nat.eq_of_beq_eq_true hn, zerosA, List.length_flatten, List.map_replicate, hzl]; simp)
    simpa using this)
/-! ### Several results, each in a temporary or in a box -/
def resOne (tmps : Array Value) : ResultVar → Sem Value
  | .tmp t => pure (tmps.getD t undef)
  | .cell a t => do loadVar t (← asAddr (tmps.getD a undef))
def ResAt (Γ : Cx) (P : Program) (E : Env) (H : List HE) (x : ResultVar) (q : AV) : Prop :=
  ∀ R a W, RelS Γ R H W → RelA Γ.N R W E a → ∃ u, (resOne a.tmps x).run P W = .ok u W ∧ RelV R W q u
theorem ResAt.tmp {t : Nat} {q : AV} (h : look E t = some q) : ResAt Γ P E H (.tmp t) q := fun R a W hs ha => ⟨a.eval (.tmp t), rfl, ha.slots t q h⟩
theorem ResAt.cell {t T k b T' room : Nat} {xs ys : List AV} [hg : TyG P T true k] (ht : look E t = some (.val (.pointer (some ⟨b, 0, none⟩)))) (hm : HE.blk b T' room xs ∈ H) (hv : xs.take k = ys) (hk : ys.length = k) : ResAt Γ P E H (.cell t T) (.agg ys) := fun R a W hs ha => by
  obtain ⟨us, cs, hb, hsz, hts, hrl⟩ := hs.ok _ hm
  have hrl := hrl.take k
  rw [hv] at hrl
  have hl := run_loadVarK hg W b 0 (us.take k) (by rw [hrl.1, hk]) (fun i u hi => by
    rw [cell_of_row W b (0 + i) cs T' (0, 0) hb]
    rw [List.getElem?_take] at hi
    split at hi
    · rw [← hts, List.getElem?_take] at hi
      split at hi
      · simpa using hi
      · cases hi
    · cases hi)
  have hv' := (ha.slots t _ ht).val_inv
  refine ⟨.agg (us.take k).toArray, ?_, hrl.toAgg⟩
  have : a.tmps.getD t undef = .pointer (some ⟨b, 0, none⟩) := hv'
  simp [resOne, this, asAddr, hl]
end
end Go.Proofs.Ytjgmedmakbjkdaa.A

namespace Go.Proofs.Ytjgmedmakbjkdaa.A
open Go.RowKit L
set_option linter.unusedVariables false
set_option linter.unusedSimpArgs false

section
variable {P : Program} {ops : Array Oper} {N : Nat}
/-- Operations in this order: true those that write, false those that read. -/
structure Al where
  (i d T room : Nat) (xs : List AV)
def Al.ok (P : Program) (N : Nat) (ops : Array Oper) (al : Al) : Prop :=
  ∃ o, ops[al.i]? = some o ∧ o.dst = some al.d ∧ al.d < N ∧ o.guard = none ∧ OpW P N o [] [] (NewBlk (fun b => .val (.pointer (some ⟨b, 0, none⟩))) al.T al.room al.xs)
def Al.he (al : Al) (b : Nat) : HE := .blk b al.T al.room al.xs
def Al.hs (al : Al) : Option Nat → List HE
  | none => []
  | some b => [al.he b]
def AN (P : Program) (N : Nat) (ops : Array Oper) (al : Al) (Hs : List HE) (K : Env → List HE → Prop) : List (Nat × Bool) → Env → List HE → Prop
  | [], E, H => K E H
  | (i, true) :: r, E, H => if i = al.i then (∀ b, AN P N ops al Hs K r ((al.d, .val (.pointer (some ⟨b, 0, none⟩))) :: E) (al.he b :: H)) else ∃ o, ops[i]? = some o ∧ ∀ w0 R0, AO ⟨w0, footOf H, R0, N⟩ P ops (QS ⟨w0, footOf H, R0, N⟩ o.dst (fun v H' => AN P N ops al Hs K r (putE o.dst v E) H')) [o] (rst E (o.looksAt ops)) H
  | (i, false) :: r, E, H => ∃ o d v, ops[i]? = some o ∧ o.dst = some d ∧ d < N ∧ OpF P N ops o (rst E (o.looksAt ops)) Hs (Is v) ∧ AN P N ops al Hs K r ((d, v) :: E) H

/-- One operation ahead of another. -/
def ordPairA (ops : Array Oper) (ia : Nat) (an : List (List Nat)) (i : Nat) (b : Bool) (j : Nat) (c : Bool) : Bool :=
  match ops[i]?, ops[j]? with
  | some oi, some oj =>
    let waits := oj.after.any fun e => Region.binds .any e && e.on == i
    let anc := (an.getD j []).contains i
    (i != j) && (!b || anc || j == ia) &&
    (match oj.dst with
      | some d => bif c && j != ia then (!((oi.looksAt ops).contains d || oi.dst == some d)) || anc else !(oi.looksAt ops).contains d && oi.dst != some d
      | none => c && j != ia) &&
    (match oi.dst with
      | some d => !(oj.looksAt ops).contains d || waits
      | none => true)
  | _, _ => false
def ordPairsA (ops : Array Oper) (ia : Nat) (an : List (List Nat)) : List (Nat × Bool) → Bool
  | [] => true
  | (i, b) :: r => (b || (match ops[i]? with | some o => (match o.dst with | some d => !(o.looksAt ops).contains d | none => false) | none => false)) && r.all (fun q => ordPairA ops ia an i b q.1 q.2) && ordPairsA ops ia an r
def ordOkA (ops : Array Oper) (ia : Nat) (ord : List (Nat × Bool)) : Bool :=
  ((List.range ops.size).all fun i => (ord.map Prod.fst).contains i) && (ord.all fun q => decide (q.1 < ops.size)) &&
  ((List.range ops.size).all fun i => (ops[i]?).all fun o => o.after.all fun e => !Region.binds .any e || decide (e.on < i)) && (ord.all fun q => q.1 != ia || q.2) && ordPairsA ops ia (ancs ops.toList []) ord

theorem ordPairsA_app {ia : Nat} {an : List (List Nat)} : ∀ {pre r : List (Nat × Bool)}, ordPairsA ops ia an (pre ++ r) = true → ordPairsA ops ia an r = true ∧ ∀ q ∈ pre, ∀ s ∈ r, ordPairA ops ia an q.1 q.2 s.1 s.2 = true
  | [], r, h => ⟨h, fun q hq => by cases hq⟩
  | (i, b) :: pre, r, h => by
    rw [List.cons_append, ordPairsA] at h
    simp only [Bool.and_eq_true, List.all_eq_true] at h
    obtain ⟨h1, h2⟩ := ordPairsA_app h.2
    refine ⟨h1, fun q hq s hs => ?_⟩
    rcases List.mem_cons.1 hq with rfl | hq
    · exact h.1.2 s (List.mem_append_right _ hs)
    · exact h2 q hq s hs

structure PairOkA (ops : Array Oper) (ia : Nat) (an : List (List Nat)) (i : Nat) (b : Bool) (oi : Oper) (j : Nat) (c : Bool) (oj : Oper) : Prop where
  ne : i ≠ j
  main : b = true → j ≠ ia → i ∈ an.getD j []
  flt : c = false ∨ j = ia → ∃ d, oj.dst = some d ∧ d ∉ oi.looksAt ops ∧ oi.dst ≠ some d
  mn : c = true → j ≠ ia → ∀ d, oj.dst = some d → (d ∈ oi.looksAt ops ∨ oi.dst = some d) → i ∈ an.getD j []
  reads : ∀ d, oi.dst = some d → d ∈ oj.looksAt ops → ∃ e ∈ oj.after, Region.binds .any e = true ∧ e.on = i
theorem pairOkA {ia : Nat} {an : List (List Nat)} {i j : Nat} {b c : Bool} {oi oj : Oper} (h : ordPairA ops ia an i b j c = true) (hi : ops[i]? = some oi) (hj : ops[j]? = some oj) : PairOkA ops ia an i b oi j c oj := by
  unfold ordPairA at h
  rw [hi, hj] at h
  simp only [Bool.and_eq_true, bne_iff_ne, ne_eq] at h
  obtain ⟨⟨⟨h1, h2⟩, h3⟩, h4⟩ := h
  refine ⟨h1, fun hb hj => ?_, fun hc => ?_, fun hc hj d hd hm => ?_, fun d hd hm => ?_⟩
  · subst hb; simpa [hj] using h2
  · have hcj : (c && j != ia) = false := by rcases hc with hc | hc <;> simp [hc]
    cases hd : oj.dst with
    | none => rw [hd] at h3; simp only [hcj] at h3; cases h3
    | some d =>
      rw [hd] at h3
      simp only [hcj, cond_false] at h3
      simp at h3
      exact ⟨d, rfl, h3.1, h3.2⟩
  · subst hc
    have hcj : (true && j != ia) = true := by simp [hj]
    rw [hd] at h3
    simp only [hcj, cond_true] at h3
    simp at h3
    rcases h3 with h3 | h3
    · rcases hm with hm | hm
      · exact absurd hm h3.1
      · exact absurd hm h3.2
    · exact h3
  · rw [hd] at h4
    simp only [Bool.or_eq_true, Bool.not_eq_true', List.contains_eq_mem, decide_eq_false_iff_not] at h4
    rcases h4 with h4 | h4
    · exact absurd hm h4
    · obtain ⟨x, hx, hx2⟩ := any_mem h4
      simp only [Bool.and_eq_true, beq_iff_eq] at hx2
      exact ⟨x, hx, hx2.1, hx2.2⟩

/-- The state on the way. -/
structure NI (P : Program) (Γ : Cx) (ops : Array Oper) (al : Al) (Hs : List HE) (K : Env → List HE → Prop) (ord : List (Nat × Bool)) (listed : Array Bool) (A : Act) (W : World) (pre ms : List (Nat × Bool)) (Pd : List Nat) (ea : Option Nat) (E : Env) (H : List HE) (R : Nat → Prop) : Prop where
  size : listed.size = ops.size
  closed : Closed ops listed
  part : ∀ i, i < ops.size → (listed.getD i false = false ↔ (i ∈ Pd ∨ i ∈ ms.map Prod.fst) ∧ (ea ≠ none → i ≠ al.i))
  ord : ord = pre ++ ms
  pdp : ∀ i ∈ Pd, (i, false) ∈ pre
  am : AN P Γ.N ops al Hs K ms E H
  pend : ∀ i ∈ Pd, ∃ o d v, ops[i]? = some o ∧ o.dst = some d ∧ d < Γ.N ∧ look E d = some v ∧ OpF P Γ.N ops o (rst E (o.looksAt ops)) Hs (Is v)
  rels : RelS Γ R (H ++ (al.hs ea ++ Hs)) W
  eal : ∀ b, ea = some b → (al.i, true) ∈ ms ∧ A.eval (.tmp al.d) = .pointer (some ⟨b, 0, none⟩)
  defers : A.defers = []
  tmps : A.tmps.size = Γ.N
  act : ∀ t v, look E t = some v → (∀ i ∈ Pd, ∀ o, ops[i]? = some o → o.dst ≠ some t) → (ea ≠ none → t ≠ al.d) → RelV R W v (A.eval (.tmp t))

variable {Γ : Cx} {al : Al} {Hs : List HE} {K : Env → List HE → Prop} {ord : List (Nat × Bool)}

/-- What reads is pending as soon as it may run. -/
theorem NI.absorb {listed : Array Bool} {A : Act} {W : World} {R : Nat → Prop} (hok : ordPairsA ops al.i (ancs ops.toList []) ord = true) (hal : al.ok P Γ.N ops) : ∀ (ms pre : List (Nat × Bool)) (Pd : List Nat) (ea : Option Nat) (E : Env) (H : List HE), NI P Γ ops al Hs K ord listed A W pre ms Pd ea E H R →
    ∃ pre' ms' Pd' ea' E' H', NI P Γ ops al Hs K ord listed A W pre' ms' Pd' ea' E' H' R ∧ (ms' = [] ∨ ∃ m r, ms' = (m, true) :: r ∧ (m = al.i → ea' = none))
  | [], pre, Pd, ea, E, H, h => ⟨pre, [], Pd, ea, E, H, h, .inl rfl⟩
  | (m, true) :: r, pre, Pd, ea, E, H, h => by
    by_cases hm : m = al.i
    · subst hm
      cases hea : ea with
      | none => subst hea; exact ⟨pre, _, Pd, none, E, H, h, .inr ⟨_, r, rfl, fun _ => rfl⟩⟩
      | some b =>
        subst hea
        obtain ⟨oa, ho, hd, hN, hg, hop⟩ := hal
        have ham := h.am
        rw [AN, if_pos rfl] at ham
        have hord := h.ord
        have hq := ordPairsA_app (pre := pre) (r := (al.i, true) :: r) (by rw [← hord]; exact hok)
        have hself : ∀ i ∈ Pd, i ≠ al.i := fun i hi e => by
          have := pairOkA (hq.2 _ (h.pdp i hi) (al.i, true) (List.mem_cons_self ..)) (by rw [e]; exact ho) ho
          exact this.ne e
        have hp : ∀ i ∈ Pd, ∀ oi, ops[i]? = some oi → al.d ∉ oi.looksAt ops ∧ oi.dst ≠ some al.d := fun i hi oi hoi => by
          have := pairOkA (hq.2 _ (h.pdp i hi) (al.i, true) (List.mem_cons_self ..)) hoi ho
          obtain ⟨d', h1, h2, h3⟩ := this.flt (.inr rfl)
          rw [hd] at h1
          cases h1
          exact ⟨h2, h3⟩
        have hnr : al.i ∉ r.map Prod.fst := fun hm => by
          obtain ⟨⟨j, c⟩, hq3, hji⟩ := List.mem_map.1 hm
          have h9 := (ordPairsA_app (pre := pre ++ [(al.i, true)]) (r := r) (by rw [List.append_assoc, List.singleton_append, ← hord]; exact hok)).2 (al.i, true) (by simp) _ hq3
          simp only at hji
          subst hji
          exact (pairOkA h9 ho ho).ne rfl
        refine NI.absorb hok ⟨oa, ho, hd, hN, hg, hop⟩ r (pre ++ [(al.i, true)]) Pd none ((al.d, .val (.pointer (some ⟨b, 0, none⟩))) :: E) (al.he b :: H) ⟨h.size, h.closed, fun i hi => ?_, by rw [hord]; simp, fun i hi => List.mem_append_left _ (h.pdp i hi), ham b, fun i hi => ?_, ?_, fun _ h => (by cases h), h.defers, h.tmps, fun t x ht hpd _ => ?_⟩
        · rw [h.part i hi]
          simp only [List.map_cons, List.mem_cons, ne_eq, not_false_eq_true, forall_const, not_true_eq_false, false_implies, and_true, reduceCtorEq]
          constructor
          · rintro ⟨h1 | h1 | h1, h2⟩
            · exact .inl h1
            · exact absurd h1 h2
            · exact .inr h1
          · rintro (h1 | h1)
            · exact ⟨.inl h1, hself i h1⟩
            · exact ⟨.inr (.inr h1), fun e => hnr (e ▸ h1)⟩
        · obtain ⟨oi, di, vi, h1, h2, h3, h4, h5⟩ := h.pend i hi
          obtain ⟨h6, h7⟩ := hp i hi oi h1
          refine ⟨oi, di, vi, h1, h2, h3, ?_, by rw [rst_skip h6]; exact h5⟩
          rw [look_skip (fun e => h7 (by rw [h2, e]))]; exact h4
        · refine h.rels.perm ?_
          show (al.he b :: (H ++ ([] ++ Hs))).Perm (H ++ ([al.he b] ++ Hs))
          exact (List.perm_middle (a := al.he b) (l₁ := H) (l₂ := Hs)).symm
        · by_cases hdt : al.d = t
          · subst hdt
            rw [look_here] at ht
            cases ht
            rw [(h.eal b rfl).2]; exact .val _
          · rw [look_skip hdt] at ht
            exact h.act t x ht hpd fun _ e => hdt e.symm
    · exact ⟨pre, _, Pd, ea, E, H, h, .inr ⟨m, r, rfl, fun e => absurd e hm⟩⟩
  | (j, false) :: r, pre, Pd, ea, E, H, h => by
    obtain ⟨o, d, v, ho, hd, hN, hop, ham⟩ := h.am
    have hord := h.ord
    have hq := ordPairsA_app (pre := pre) (r := (j, false) :: r) (by rw [← hord]; exact hok)
    have hself : d ∉ o.looksAt ops := by
      have := hq.1
      rw [ordPairsA] at this
      simp only [Bool.and_eq_true, ho, hd, Bool.false_or] at this
      simpa using this.1.1
    have hp : ∀ i ∈ Pd, ∀ oi, ops[i]? = some oi → d ∉ oi.looksAt ops ∧ oi.dst ≠ some d := fun i hi oi hoi => by
      have := pairOkA (hq.2 _ (h.pdp i hi) (j, false) (List.mem_cons_self ..)) hoi ho
      obtain ⟨d', h1, h2, h3⟩ := this.flt (.inl rfl)
      rw [hd] at h1
      cases h1
      exact ⟨h2, h3⟩
    refine NI.absorb hok hal r (pre ++ [(j, false)]) (j :: Pd) ea ((d, v) :: E) H ⟨h.size, h.closed, fun i hi => ?_, by rw [hord]; simp, fun i hi => ?_, ham, fun i hi => ?_, h.rels, fun b hb => ?_, h.defers, h.tmps, fun t x ht hpd hea => ?_⟩
    · rw [h.part i hi]
      simp only [List.map_cons, List.mem_cons]
      refine and_congr_left fun _ => ?_
      constructor
      · rintro (h | h | h)
        · exact .inl (.inr h)
        · exact .inl (.inl h)
        · exact .inr h
      · rintro ((h | h) | h)
        · exact .inr (.inl h)
        · exact .inl h
        · exact .inr (.inr h)
    · rcases List.mem_cons.1 hi with rfl | hi
      · simp
      · exact List.mem_append_left _ (h.pdp i hi)
    · rcases List.mem_cons.1 hi with rfl | hi
      · exact ⟨o, d, v, ho, hd, hN, look_here, by rw [rst_skip hself]; exact hop⟩
      · obtain ⟨oi, di, vi, h1, h2, h3, h4, h5⟩ := h.pend i hi
        obtain ⟨h6, h7⟩ := hp i hi oi h1
        refine ⟨oi, di, vi, h1, h2, h3, ?_, by rw [rst_skip h6]; exact h5⟩
        rw [look_skip (fun e => h7 (by rw [h2, e]))]; exact h4
    · obtain ⟨h1, h2⟩ := h.eal b hb
      rcases List.mem_cons.1 h1 with h1 | h1
      · cases h1
      · exact ⟨h1, h2⟩
    · have hne : d ≠ t := fun e => hpd j (List.mem_cons_self ..) o ho (by rw [hd, e])
      rw [look_skip hne] at ht
      exact h.act t x ht (fun i hi => hpd i (List.mem_cons_of_mem _ hi)) hea

theorem NI.reads {listed : Array Bool} {A : Act} {W : World} {R : Nat → Prop} {pre ms : List (Nat × Bool)} {Pd : List Nat} {ea : Option Nat} {E : Env} {H : List HE} (hok : ordPairsA ops al.i (ancs ops.toList []) ord = true) (hal : al.ok P Γ.N ops) (h : NI P Γ ops al Hs K ord listed A W pre ms Pd ea E H R)
    {i : Nat} {b : Bool} {o : Oper} (ho : ops[i]? = some o) (hdeps : ∀ e ∈ o.after, Region.binds .any e = true → listed.getD e.on false = true) (hi : (i, b) ∈ pre ∧ i ∈ Pd ∧ b = false ∨ ∃ r, ms = (i, b) :: r ∧ i ≠ al.i) : RelA Γ.N R W (rst E (o.looksAt ops)) A := by
  refine ⟨h.defers, h.tmps, fun t v ht => ?_⟩
  obtain ⟨htl, ht⟩ := look_rst ht
  obtain ⟨oa, hoa, hda, -⟩ := hal
  have hnal : ea ≠ none → t ≠ al.d := fun hea e => by
    obtain ⟨b', hb'⟩ := Option.ne_none_iff_exists'.1 hea
    have hmem := (h.eal b' hb').1
    have key : ordPairA ops al.i (ancs ops.toList []) i b al.i true = true → False := fun hp => by
      obtain ⟨d', h1, h2, -⟩ := (pairOkA hp ho hoa).flt (.inr rfl)
      rw [hda] at h1; cases h1
      exact h2 (e ▸ htl)
    rcases hi with ⟨hip, -, -⟩ | ⟨r, hms, hne⟩
    · exact key ((ordPairsA_app (pre := pre) (r := ms) (by rw [← h.ord]; exact hok)).2 _ hip _ hmem)
    · rw [hms] at hmem
      rcases List.mem_cons.1 hmem with h9 | h9
      · cases h9; exact hne rfl
      · exact key ((ordPairsA_app (pre := pre ++ [(i, b)]) (r := r) (by have := h.ord; rw [List.append_assoc, List.singleton_append, ← hms, ← this]; exact hok)).2 (i, b) (by simp) _ h9)
  refine h.act t v ht (fun k hk ok hok' hdk => ?_) hnal
  have hkp := h.pdp k hk
  have hkn : ea ≠ none → k ≠ al.i := fun hea e => by
    obtain ⟨b', hb'⟩ := Option.ne_none_iff_exists'.1 hea
    have hmem := (h.eal b' hb').1
    exact (pairOkA ((ordPairsA_app (pre := pre) (r := ms) (by rw [← h.ord]; exact hok)).2 _ hkp _ hmem) hok' hoa).ne e
  have hkf : listed.getD k false = false := (h.part k (Array.getElem?_eq_some_iff.1 hok').1).2 ⟨.inl hk, hkn⟩
  have direct : ordPairA ops al.i (ancs ops.toList []) k false i b = true → False := fun hp => by
    obtain ⟨e, he, hb, hon⟩ := (pairOkA hp hok' ho).reads t hdk htl
    have := hdeps e he hb
    rw [hon, hkf] at this; cases this
  rcases hi with ⟨hip, hiP, rfl⟩ | ⟨r, hms, -⟩
  · -- both ahead
    obtain ⟨p1, p2, hp12⟩ := List.append_of_mem hkp
    have hord := h.ord
    rw [hp12, List.append_assoc] at hord
    rw [hp12] at hip
    rcases List.mem_append.1 hip with hip | hip
    · -- i ahead of k
      have hq := ordPairsA_app (pre := p1) (by rw [← hord]; exact hok)
      have := pairOkA (hq.2 _ hip (k, false) (List.mem_cons_self ..)) ho hok'
      obtain ⟨d', h1, h2, -⟩ := this.flt (.inl rfl)
      rw [hdk] at h1; cases h1
      exact h2 htl
    · rcases List.mem_cons.1 hip with he | hip
      · cases he
        -- itself
        have hq := (ordPairsA_app (pre := p1) (by rw [← hord]; exact hok)).1
        rw [List.cons_append, ordPairsA] at hq
        simp only [Bool.and_eq_true] at hq
        obtain rfl : o = ok := by rw [ho] at hok'; exact Option.some.inj hok'
        have := hq.1.1
        rw [ho] at this
        simp only [hdk, Bool.false_or] at this
        simp at this
        exact this htl
      · rw [show p1 ++ ((k, false) :: p2 ++ ms) = (p1 ++ [(k, false)]) ++ (p2 ++ ms) by simp] at hord
        have hq := ordPairsA_app (pre := p1 ++ [(k, false)]) (by rw [← hord]; exact hok)
        exact direct (hq.2 (k, false) (by simp) (i, false) (List.mem_append_left _ hip))
  · have hq := ordPairsA_app (pre := pre) (r := ms) (by rw [← h.ord]; exact hok)
    exact direct (hq.2 _ hkp (i, b) (by rw [hms]; exact List.mem_cons_self ..))

/-! One operation. -/
theorem AN.op {i d : Nat} {r : List (Nat × Bool)} {E : Env} {H : List HE} {o : Oper} {v : AV} (ho : ops[i]? = some o) (h : OpW P N o (rst E (o.looksAt ops)) Hs (Is v)) (hw : wantedIs ops (rst E (o.looksAt ops)) o = some true) (hd : o.dst = some d) (hN : Nat.ble (d + 1) N = true) (k : AN P N ops al Hs K r ((d, v) :: E) H) :
    AN P N ops al Hs K ((i, false) :: r) E H := ⟨o, d, v, ho, hd, Nat.le_of_ble_eq_true hN, .run hw h, k⟩
theorem AN.opG {i d : Nat} {r : List (Nat × Bool)} {E : Env} {H : List HE} {o : Oper} {c : Bool} {v : AV} (ho : ops[i]? = some o) (hw : guardIs ops (rst E (o.looksAt ops)) o = some c) (hd : o.dst = some d) (hN : Nat.ble (d + 1) N = true) (h : c = true → OpW P N o (rst E (o.looksAt ops)) Hs (Is v)) (k : AN P N ops al Hs K r ((d, .opt c v) :: E) H) :
    AN P N ops al Hs K ((i, false) :: r) E H := ⟨o, d, _, ho, hd, Nat.le_of_ble_eq_true hN, .opt hw h, k⟩
theorem AN.no {i d : Nat} {r : List (Nat × Bool)} {E : Env} {H : List HE} {o : Oper} (ho : ops[i]? = some o) (hw : wantedIs ops (rst E (o.looksAt ops)) o = some false) (hd : o.dst = some d) (hN : Nat.ble (d + 1) N = true) (k : AN P N ops al Hs K r ((d, .val undef) :: E) H) :
    AN P N ops al Hs K ((i, false) :: r) E H := ⟨o, d, _, ho, hd, Nat.le_of_ble_eq_true hN, .no hw, k⟩
theorem AN.main {i : Nat} {r : List (Nat × Bool)} {E : Env} {H : List HE} (o : Oper) (ho : ops[i]? = some o) (hne : Nat.beq i al.i = false) (h : ∀ w0 R0, AO ⟨w0, footOf H, R0, N⟩ P ops (QS ⟨w0, footOf H, R0, N⟩ o.dst (fun v H' => AN P N ops al Hs K r (putE o.dst v E) H')) [o] (rst E (o.looksAt ops)) H) :
    AN P N ops al Hs K ((i, true) :: r) E H := by rw [AN, if_neg (Nat.ne_of_beq_eq_false hne)]; exact ⟨o, ho, h⟩
theorem AN.box {i : Nat} {r : List (Nat × Bool)} {E : Env} {H : List HE} (he : i = al.i) (k : ∀ b, AN P N ops al Hs K r ((al.d, .val (.pointer (some ⟨b, 0, none⟩))) :: E) (al.he b :: H)) : AN P N ops al Hs K ((i, true) :: r) E H := by rw [AN, if_pos he]; exact k
theorem AN.nil {E : Env} {H : List HE} (h : K E H) : AN P N ops al Hs K [] E H := h
end
end Go.Proofs.Ytjgmedmakbjkdaa.A

namespace Go.Proofs.Ytjgmedmakbjkdaa.By
open Go.RowKit L A
set_option linter.unusedVariables false
set_option linter.unusedSimpArgs false
attribute [local irreducible] AW AQ AO
structure Obs where
  peer : Int
  tok : List UInt8
  ctx : List UInt8
  kid : List UInt8
  piv : Int
  path : ByteArray
def Obs.none : Obs := ⟨0, [], [], [], 0, ByteArray.empty⟩
def cellsOb (o : Obs) : List AV := [.val (.int .i64 o.peer), roB o.tok, roB o.ctx, roB o.kid, .val (.int .i64 o.piv), .val (.string o.path)]
theorem cellsOb_len (o : Obs) : (cellsOb o).length = 6 := rfl
abbrev aggOb (o : Obs) : AV := .agg [.val (.int .i64 o.peer), roB o.tok, roB o.ctx, roB o.kid, .val (.int .i64 o.piv), .val (.string o.path)]
def obsA (os : List Obs) : List AV := os.flatMap cellsOb
def roOb (os : List Obs) : AV := .ro false os.length (obsA os)
abbrev obat (os : List Obs) (k : Nat) : Obs := os.getD k Obs.none
@[simp] theorem obsA_len (os : List Obs) : (obsA os).length = os.length * 6 := flat_len cellsOb_len os
theorem obsA_app (a b : List Obs) : obsA (a ++ b) = obsA a ++ obsA b := flat_app a b
theorem obsA_snoc (a : List Obs) (o : Obs) : obsA (a ++ [o]) = obsA a ++ [.val (.int .i64 o.peer), roB o.tok, roB o.ctx, roB o.kid, .val (.int .i64 o.piv), .val (.string o.path)] := flat_snoc a o
theorem obsA_one (os : List Obs) : (obsA os).all AV.one = true := by
  induction os with
  | nil => rfl
  | cons o os ih => rw [obsA, List.flatMap_cons, List.all_append]; rw [obsA] at ih; rw [ih]; rfl
theorem getOb {os : List Obs} {k : Nat} (h : k < os.length) {j : Nat} (hj : j = k) : ((obsA os).drop (j * 6)).take 6 = [.val (.int .i64 (obat os k).peer), roB (obat os k).tok, roB (obat os k).ctx, roB (obat os k).kid, .val (.int .i64 (obat os k).piv), .val (.string (obat os k).path)] := flat_at cellsOb_len Obs.none h hj
theorem getObC {os : List Obs} {k c : Nat} (h : k < os.length) (hc : c < 6) {j : Nat} (hj : j = k * 6 + c) : (obsA os)[j]? = (cellsOb (obat os k))[c]? := flat_cell cellsOb_len Obs.none h hc hj
theorem roOb_of {n : Nat} {xs : List AV} {os : List Obs} (h1 : n = os.length) (h2 : xs = obsA os) : AV.ro false n xs = roOb os := by subst h1; subst h2; rfl
def eqS (a b : ByteArray) : Bool := a.toList == b.toList
def rightB (o : Obs) : Bool := decide (0 ≤ o.peer) && decide (o.peer ≤ 65536) && decide ((o.tok.length : Int) ≤ 8) && decide ((o.path.size : Int) ≤ 64)
def meetsB (a b : Obs) : Bool := a.peer == b.peer && (a.tok == b.tok || eqS a.path b.path)
theorem right_fn (o : Obs) : Sp Try.prog 23 [aggOb o] [] (Is (.val (.bool (rightB o)))) := by
  refine Sp.enter Try.func23 rfl _ Try.ntmps23 rfl (fun w0 R0 => ?_)
  refine AW.seq ?_
  refine AW.region ?_
  refine AO.opB (O.box rfl rfl rfl rfl rfl) rfl rfl rfl ?_
  intro B1
  refine AO.op (O.assign rfl rfl) rfl rfl rfl ?_
  refine AO.nil ?_
  refine AQ.thenN ?_
  refine AW.seq ?_
  refine AW.region ?_
  refine AO.op (O.fieldAddr rfl rfl) rfl rfl rfl ?_
  refine AO.op (O.load rfl rfl (by repeat (exact List.Mem.head _)) (by rfl)) rfl rfl rfl ?_
  refine AO.op (O.geq rfl rfl rfl (by rfl)) rfl rfl rfl ?_
  refine AO.op (O.move rfl rfl) rfl rfl rfl ?_
  refine AO.opG rfl rfl rfl (fun hp => O.fieldAddr rfl rfl) ?_
  refine AO.opG rfl rfl rfl (fun hp => OpW.force 7 rfl (by exact hp) (O.load rfl rfl (by repeat (exact List.Mem.head _)) (by rfl))) ?_
  refine AO.opG rfl rfl rfl (fun hp => OpW.force 8 rfl (by exact hp) (O.leq rfl rfl rfl (by rfl))) ?_
  refine AO.op (O.pickAnd rfl rfl rfl rfl (fun h => by exact h)) rfl rfl rfl ?_
  refine AO.op (O.move rfl rfl) rfl rfl rfl ?_
  refine AO.opG rfl rfl rfl (fun hp => O.fieldAddr rfl rfl) ?_
  refine AO.opG rfl rfl rfl (fun hp => OpW.force 12 rfl (by exact hp) (O.load rfl rfl (by repeat (exact List.Mem.head _)) (by rfl))) ?_
  refine AO.opG rfl rfl rfl (fun hp => OpW.force 13 rfl (by exact hp) (O.lenR rfl rfl)) ?_
  refine AO.opG rfl rfl rfl (fun hp => OpW.force 14 rfl (by exact hp) (O.leq rfl rfl rfl (by rfl))) ?_
  refine AO.op (O.pickAnd rfl rfl rfl rfl (fun h => by exact h)) rfl rfl rfl ?_
  refine AO.op (O.move rfl rfl) rfl rfl rfl ?_
  refine AO.opG rfl rfl rfl (fun hp => O.fieldAddr rfl rfl) ?_
  refine AO.opG rfl rfl rfl (fun hp => OpW.force 18 rfl (by exact hp) (O.load rfl rfl (by repeat (exact List.Mem.head _)) (by rfl))) ?_
  refine AO.opG rfl rfl rfl (fun hp => OpW.force 19 rfl (by exact hp) (O.lenS rfl rfl)) ?_
  refine AO.opG rfl rfl rfl (fun hp => OpW.force 20 rfl (by exact hp) (O.leq rfl rfl rfl (by rfl))) ?_
  refine AO.op (O.pickAnd rfl rfl rfl rfl (fun h => by exact h)) rfl rfl rfl ?_
  refine AO.op (O.assign rfl rfl) rfl rfl rfl ?_
  refine AO.nil ?_
  refine AQ.thenN ?_
  refine AW.ret ?_
  refine AQ.ret1 rfl rfl ⟨_, List.nil_sublist _, .nil⟩ (⟨rfl, rfl⟩)
theorem fine_fn (o : Obs) : Sp Try.prog 25 [aggOb o] [] (Is (.val (.bool (rightB o)))) := by
  refine Sp.enter Try.func25 rfl _ Try.ntmps25 rfl (fun w0 R0 => ?_)
  refine AW.seq ?_
  refine AW.region ?_
  refine AO.opB (O.box rfl rfl rfl rfl rfl) rfl rfl rfl ?_
  intro B1
  refine AO.op (O.assign rfl rfl) rfl rfl rfl ?_
  refine AO.nil ?_
  refine AQ.thenN ?_
  refine AW.seq ?_
  refine AW.region ?_
  refine AO.op (O.fieldAddr rfl rfl) rfl rfl rfl ?_
  refine AO.op (O.load rfl rfl (by repeat (exact List.Mem.head _)) (by rfl)) rfl rfl rfl ?_
  refine AO.op (O.geq rfl rfl rfl (by rfl)) rfl rfl rfl ?_
  refine AO.op (O.move rfl rfl) rfl rfl rfl ?_
  refine AO.opG rfl rfl rfl (fun hp => O.fieldAddr rfl rfl) ?_
  refine AO.opG rfl rfl rfl (fun hp => OpW.force 7 rfl (by exact hp) (O.load rfl rfl (by repeat (exact List.Mem.head _)) (by rfl))) ?_
  refine AO.opG rfl rfl rfl (fun hp => OpW.force 8 rfl (by exact hp) (O.leq rfl rfl rfl (by rfl))) ?_
  refine AO.op (O.pickAnd rfl rfl rfl rfl (fun h => by exact h)) rfl rfl rfl ?_
  refine AO.op (O.move rfl rfl) rfl rfl rfl ?_
  refine AO.opG rfl rfl rfl (fun hp => O.fieldAddr rfl rfl) ?_
  refine AO.opG rfl rfl rfl (fun hp => OpW.force 12 rfl (by exact hp) (O.load rfl rfl (by repeat (exact List.Mem.head _)) (by rfl))) ?_
  refine AO.opG rfl rfl rfl (fun hp => OpW.force 13 rfl (by exact hp) (O.lenR rfl rfl)) ?_
  refine AO.opG rfl rfl rfl (fun hp => OpW.force 14 rfl (by exact hp) (O.leq rfl rfl rfl (by rfl))) ?_
  refine AO.op (O.pickAnd rfl rfl rfl rfl (fun h => by exact h)) rfl rfl rfl ?_
  refine AO.op (O.move rfl rfl) rfl rfl rfl ?_
  refine AO.opG rfl rfl rfl (fun hp => O.fieldAddr rfl rfl) ?_
  refine AO.opG rfl rfl rfl (fun hp => OpW.force 18 rfl (by exact hp) (O.load rfl rfl (by repeat (exact List.Mem.head _)) (by rfl))) ?_
  refine AO.opG rfl rfl rfl (fun hp => OpW.force 19 rfl (by exact hp) (O.lenS rfl rfl)) ?_
  refine AO.opG rfl rfl rfl (fun hp => OpW.force 20 rfl (by exact hp) (O.leq rfl rfl rfl (by rfl))) ?_
  refine AO.op (O.pickAnd rfl rfl rfl rfl (fun h => by exact h)) rfl rfl rfl ?_
  refine AO.op (O.assign rfl rfl) rfl rfl rfl ?_
  refine AO.nil ?_
  refine AQ.thenN ?_
  refine AW.ret ?_
  refine AQ.ret1 rfl rfl ⟨_, List.nil_sublist _, .nil⟩ (⟨rfl, rfl⟩)
theorem samen_fn (a b : List UInt8) : Sp Try.prog 35 [roB a, roB b] [] (Is (.val (.bool (a == b)))) := by
  refine Sp.enter Try.func35 rfl _ Try.ntmps35 rfl (fun w0 R0 => ?_)
  refine AW.seq ?_
  refine AW.region ?_
  refine AO.op (O.assign rfl rfl) rfl rfl rfl ?_
  refine AO.nil ?_
  refine AQ.thenN ?_
  refine AW.seq ?_
  refine AW.region ?_
  refine AO.op (O.move rfl rfl) rfl rfl rfl ?_
  refine AO.op (O.convS rfl rfl (by rfl)) rfl rfl rfl ?_
  refine AO.op (O.move rfl rfl) rfl rfl rfl ?_
  refine AO.op (O.convS rfl rfl (by rfl)) rfl rfl rfl ?_
  refine AO.op (O.eqlS rfl rfl rfl (by rfl)) rfl rfl rfl ?_
  refine AO.op (O.assign rfl rfl) rfl rfl rfl ?_
  refine AO.nil ?_
  refine AQ.thenN ?_
  refine AW.ret ?_
  refine AQ.ret1 rfl rfl ⟨_, List.nil_sublist _, .nil⟩ (⟨by rw [strOf_toList, strOf_toList], rfl⟩)
theorem meets_fn (a b : Obs) : Sp Try.prog 24 [aggOb a, aggOb b] [] (Is (.val (.bool (meetsB a b)))) := by
  refine Sp.enter Try.func24 rfl _ Try.ntmps24 rfl (fun w0 R0 => ?_)
  refine AW.seq ?_
  refine AW.region ?_
  refine AO.opB (O.box rfl rfl rfl rfl rfl) rfl rfl rfl ?_
  intro B1
  refine AO.opB (O.box rfl rfl rfl rfl rfl) rfl rfl rfl ?_
  intro B2
  refine AO.op (O.assign rfl rfl) rfl rfl rfl ?_
  refine AO.nil ?_
  refine AQ.thenN ?_
  refine AW.seq ?_
  refine AW.region ?_
  refine AO.op (O.fieldAddr rfl rfl) rfl rfl rfl ?_
  refine AO.op (O.load rfl rfl (by repeat (first | exact List.Mem.head _ | refine List.Mem.tail _ ?_)) (by rfl)) rfl rfl rfl ?_
  refine AO.op (O.fieldAddr rfl rfl) rfl rfl rfl ?_
  refine AO.op (O.load rfl rfl (by repeat (exact List.Mem.head _)) (by rfl)) rfl rfl rfl ?_
  refine AO.op (O.eql rfl rfl rfl (by rfl)) rfl rfl rfl ?_
  refine AO.op (O.move rfl rfl) rfl rfl rfl ?_
  refine AO.opG rfl rfl rfl (fun hp => O.fieldAddr rfl rfl) ?_
  refine AO.opG rfl rfl rfl (fun hp => OpW.force 11 rfl (by exact hp) (O.load rfl rfl (by repeat (first | exact List.Mem.head _ | refine List.Mem.tail _ ?_)) (by rfl))) ?_
  refine AO.opG rfl rfl rfl (fun hp => O.fieldAddr rfl rfl) ?_
  refine AO.opG rfl rfl rfl (fun hp => OpW.force 13 rfl (by exact hp) (O.load rfl rfl (by repeat (exact List.Mem.head _)) (by rfl))) ?_
  refine AO.opG rfl rfl rfl (fun hp => OpW.force 12 rfl (by exact hp) (OpW.force 14 rfl (by exact hp) (O.call rfl Try.func35 rfl rfl rfl (samen_fn _ _)))) ?_
  refine AO.opG rfl rfl rfl (fun hp => OpW.force 15 rfl (by exact hp) (O.move rfl rfl)) ?_
  refine AO.opG rfl rfl rfl (fun hp => O.fieldAddr rfl rfl) ?_
  refine AO.opG rfl rfl rfl (fun hp => OpW.force 17 rfl (by exact hp) (O.load rfl rfl (by repeat (first | exact List.Mem.head _ | refine List.Mem.tail _ ?_)) (by rfl))) ?_
  refine AO.opG rfl rfl rfl (fun hp => O.fieldAddr rfl rfl) ?_
  refine AO.opG rfl rfl rfl (fun hp => OpW.force 19 rfl (by exact hp) (O.load rfl rfl (by repeat (exact List.Mem.head _)) (by rfl))) ?_
  refine AO.opG rfl rfl rfl (fun hp => OpW.force 18 rfl (by exact hp) (OpW.force 20 rfl (by exact hp) (O.eqlS rfl rfl rfl (by rfl)))) ?_
  refine AO.opG rfl rfl rfl (fun hp => OpW.force 16 rfl (by exact hp) (O.pickOr rfl rfl rfl rfl (fun h => by simp_all))) ?_
  refine AO.op (O.pickAnd rfl rfl rfl rfl (fun h => by exact h)) rfl rfl rfl ?_
  refine AO.op (O.assign rfl rfl) rfl rfl rfl ?_
  refine AO.nil ?_
  refine AQ.thenN ?_
  refine AW.ret ?_
  refine AQ.ret1 rfl rfl ⟨_, List.nil_sublist _, .nil⟩ (⟨rfl, rfl⟩)
theorem clash_fn (a b : Obs) : Sp Try.prog 26 [aggOb a, aggOb b] [] (Is (.val (.bool (meetsB a b)))) := by
  refine Sp.enter Try.func26 rfl _ Try.ntmps26 rfl (fun w0 R0 => ?_)
  refine AW.seq ?_
  refine AW.region ?_
  refine AO.opB (O.box rfl rfl rfl rfl rfl) rfl rfl rfl ?_
  intro B1
  refine AO.opB (O.box rfl rfl rfl rfl rfl) rfl rfl rfl ?_
  intro B2
  refine AO.op (O.assign rfl rfl) rfl rfl rfl ?_
  refine AO.nil ?_
  refine AQ.thenN ?_
  refine AW.seq ?_
  refine AW.region ?_
  refine AO.op (O.fieldAddr rfl rfl) rfl rfl rfl ?_
  refine AO.op (O.load rfl rfl (by repeat (first | exact List.Mem.head _ | refine List.Mem.tail _ ?_)) (by rfl)) rfl rfl rfl ?_
  refine AO.op (O.fieldAddr rfl rfl) rfl rfl rfl ?_
  refine AO.op (O.load rfl rfl (by repeat (exact List.Mem.head _)) (by rfl)) rfl rfl rfl ?_
  refine AO.op (O.eql rfl rfl rfl (by rfl)) rfl rfl rfl ?_
  refine AO.op (O.move rfl rfl) rfl rfl rfl ?_
  refine AO.opG rfl rfl rfl (fun hp => O.fieldAddr rfl rfl) ?_
  refine AO.opG rfl rfl rfl (fun hp => OpW.force 11 rfl (by exact hp) (O.load rfl rfl (by repeat (first | exact List.Mem.head _ | refine List.Mem.tail _ ?_)) (by rfl))) ?_
  refine AO.opG rfl rfl rfl (fun hp => O.fieldAddr rfl rfl) ?_
  refine AO.opG rfl rfl rfl (fun hp => OpW.force 13 rfl (by exact hp) (O.load rfl rfl (by repeat (exact List.Mem.head _)) (by rfl))) ?_
  refine AO.opG rfl rfl rfl (fun hp => OpW.force 12 rfl (by exact hp) (OpW.force 14 rfl (by exact hp) (O.call rfl Try.func32 rfl rfl rfl (equal26_fn _ _)))) ?_
  refine AO.opG rfl rfl rfl (fun hp => OpW.force 15 rfl (by exact hp) (O.move rfl rfl)) ?_
  refine AO.opG rfl rfl rfl (fun hp => O.fieldAddr rfl rfl) ?_
  refine AO.opG rfl rfl rfl (fun hp => OpW.force 17 rfl (by exact hp) (O.load rfl rfl (by repeat (first | exact List.Mem.head _ | refine List.Mem.tail _ ?_)) (by rfl))) ?_
  refine AO.opG rfl rfl rfl (fun hp => O.fieldAddr rfl rfl) ?_
  refine AO.opG rfl rfl rfl (fun hp => OpW.force 19 rfl (by exact hp) (O.load rfl rfl (by repeat (exact List.Mem.head _)) (by rfl))) ?_
  refine AO.opG rfl rfl rfl (fun hp => OpW.force 18 rfl (by exact hp) (OpW.force 20 rfl (by exact hp) (O.eqlS rfl rfl rfl (by rfl)))) ?_
  refine AO.opG rfl rfl rfl (fun hp => OpW.force 16 rfl (by exact hp) (O.pickOr rfl rfl rfl rfl (fun h => by simp_all))) ?_
  refine AO.op (O.pickAnd rfl rfl rfl rfl (fun h => by exact h)) rfl rfl rfl ?_
  refine AO.op (O.assign rfl rfl) rfl rfl rfl ?_
  refine AO.nil ?_
  refine AQ.thenN ?_
  refine AW.ret ?_
  refine AQ.ret1 rfl rfl ⟨_, List.nil_sublist _, .nil⟩ (⟨rfl, rfl⟩)
theorem copiedn_fn (l : List UInt8) (hl : l.length ≤ 4294967296) : Sp Try.prog 30 [roB l] [] (Is (roB l)) := by
  refine Sp.enter Try.func30 rfl _ Try.ntmps30 rfl (fun w0 R0 => ?_)
  refine AW.seq ?_
  refine AW.region ?_
  refine AO.op (O.assign rfl rfl) rfl rfl rfl ?_
  refine AO.nil ?_
  refine AQ.thenN ?_
  refine AW.seq ?_
  refine AW.region ?_
  refine AO.op (O.move rfl rfl) rfl rfl rfl ?_
  refine AO.opRow (O.appendNil rfl (by rfl) (by rfl) rfl rfl (by exact SrcA.ro TyD.ax (by (simp; done)) (Nat.le_of_ble_eq_true rfl)) (by (simp [AV.cells, AV.one, *]; done)) (by (unfold maxLen; omega)) (by omega)) rfl rfl rfl ?_
  intro V1 hV1
  refine AO.op (O.assign rfl rfl) rfl rfl rfl ?_
  refine AO.nil ?_
  refine AQ.thenN ?_
  refine AW.ret ?_
  refine AQ.g ?_
  refine G.freezeRow 0 rfl [2] (by repeat (first | exact frNil | refine frCons rfl ?_)) ?_
  refine AQ.u ?_
  try dsimp only [List.map, List.eraseIdx, List.cons_append, List.nil_append]
  refine AQ.ret1 rfl rfl ⟨_, List.nil_sublist _, .nil⟩ (⟨rfl, rfl⟩)
theorem bind_fn (x y : List UInt8) (n : Int) (hx : x.length ≤ 4294967296) (hy : y.length ≤ 4294967296) : Sp Try.prog 31 [.agg [roB x, roB y, .val (.int .i64 n)]] [] (Is (.agg [roB x, roB y, .val (.int .i64 n)])) := by
  refine Sp.enter Try.func31 rfl _ Try.ntmps31 rfl (fun w0 R0 => ?_)
  refine AW.seq ?_
  refine AW.region ?_
  refine AO.opB (O.box rfl rfl rfl rfl rfl) rfl rfl rfl ?_
  intro B1
  refine AO.opB (O.alloc rfl (by (dsimp only [List.set, List.append, List.cons_append, List.nil_append, roB_cells, roI_cells, roO_cells, splice, ofConst, AV.cells, List.map, List.map_cons, List.map_nil, List.take, List.drop, Nat.zero_add, Nat.add_zero, Nat.reduceAdd, Nat.reduceMul, Nat.zero_mul, Value.cells, List.toList_toArray, zerosA, List.replicate, List.flatten, List.append_nil]; done)) (by rfl)) rfl rfl rfl ?_
  intro B2
  refine AO.nil ?_
  refine AQ.thenN ?_
  refine AW.seq ?_
  refine AW.regionD 9 (by kernel_rfl) (by kernel_rfl) ?_
  simp only [List.take_succ_cons, List.take_zero, List.drop_succ_cons, List.drop_zero]
  refine FA.op (O.fieldAddr rfl rfl) rfl rfl rfl rfl ?_
  refine FA.op (O.load rfl rfl (by repeat (first | exact List.Mem.head _ | refine List.Mem.tail _ ?_)) (by rfl)) rfl rfl rfl rfl ?_
  refine FA.op (O.call rfl Try.func30 rfl rfl rfl (copiedn_fn _ (by assumption))) rfl rfl rfl rfl ?_
  refine FA.op (O.fieldAddr rfl rfl) rfl rfl rfl rfl ?_
  refine FA.op (O.load rfl rfl (by repeat (first | exact List.Mem.head _ | refine List.Mem.tail _ ?_)) (by rfl)) rfl rfl rfl rfl ?_
  refine FA.op (O.call rfl Try.func30 rfl rfl rfl (copiedn_fn _ (by assumption))) rfl rfl rfl rfl ?_
  refine FA.op (O.fieldAddr rfl rfl) rfl rfl rfl rfl ?_
  refine FA.op (O.load rfl rfl (by repeat (first | exact List.Mem.head _ | refine List.Mem.tail _ ?_)) (by rfl)) rfl rfl rfl rfl ?_
  refine FA.op (O.build rfl rfl rfl (by rfl)) rfl rfl rfl rfl ?_
  refine FA.nil ?_
  simp only [chosen, List.nil_append, List.cons_append, List.append_nil]
  (refine AO.store (i := 0) rfl rfl rfl rfl rfl rfl (by rfl) (by rfl) (by rfl) (by (dsimp only [List.set, List.append, List.cons_append, List.nil_append, roB_cells, roI_cells, roO_cells, splice, ofConst, AV.cells, List.map, List.map_cons, List.map_nil, List.take, List.drop, Nat.zero_add, Nat.add_zero, Nat.reduceAdd, Nat.reduceMul, Nat.zero_mul, Value.cells, List.toList_toArray, zerosA, List.replicate, List.flatten, List.append_nil]; done)) (by (dsimp only [List.set, List.append, List.cons_append, List.nil_append, roB_cells, roI_cells, roO_cells, splice, ofConst, AV.cells, List.map, List.map_cons, List.map_nil, List.take, List.drop, Nat.zero_add, Nat.add_zero, Nat.reduceAdd, Nat.reduceMul, Nat.zero_mul, Value.cells, List.toList_toArray, zerosA, List.replicate, List.flatten, List.append_nil]; done)) ?_)
  refine AO.nil ?_
  refine AQ.thenN ?_
  refine AW.ret ?_
  refine AQ.retCell rfl rfl (by repeat (exact List.Mem.head _)) (by rfl) rfl ⟨_, List.nil_sublist _, .nil⟩ (⟨rfl, rfl⟩)
end Go.Proofs.Ytjgmedmakbjkdaa.By

namespace Go.Proofs.Ytjgmedmakbjkdaa.By
open Go.RowKit L A
set_option linter.unusedVariables false
set_option linter.unusedSimpArgs false
attribute [local irreducible] AW AQ AO
def ShortOb (os : List Obs) : Prop := os.length ≤ 1000000 ∧ ∀ o ∈ os, o.tok.length ≤ 4294967296 ∧ o.ctx.length ≤ 4294967296 ∧ o.kid.length ≤ 4294967296
theorem ShortOb.at {os : List Obs} (h : ShortOb os) {k : Nat} (hk : k < os.length) : (obat os k).tok.length ≤ 4294967296 ∧ (obat os k).ctx.length ≤ 4294967296 ∧ (obat os k).kid.length ≤ 4294967296 := h.2 _ (getD_mem _ hk)
def keepO (K : Obs → Bool) (os : List Obs) (k : Nat) : List Obs := (os.take k).filter K
theorem keepO_succ {K : Obs → Bool} {os : List Obs} {k : Nat} (h : k < os.length) : keepO K os (k + 1) = keepO K os k ++ if K (obat os k) = true then [obat os k] else [] := by
  rw [keepO, take_snoc Obs.none h, List.filter_append]
  congr 1
  rw [List.filter_cons, List.filter_nil]
theorem keepO_le (K : Obs → Bool) (os : List Obs) (k : Nat) : (keepO K os k).length ≤ k := by
  have h1 := List.length_filter_le K (os.take k)
  have h2 := List.length_take_le k os
  unfold keepO; omega
theorem keepO_all (K : Obs → Bool) (os : List Obs) : keepO K os os.length = os.filter K := by simp [keepO]
theorem can1_fn (x : Obs) (p : Int) (tk : List UInt8) : Sp Try.prog 34 [aggOb x, .rp [.val (.int .i64 p)] 0, .rp [roB tk] 0] [] (Is (.val (.bool (x.peer != p || !(x.tok == tk))))) := by
  refine Sp.enter Try.func34 rfl _ Try.ntmps34 rfl (fun w0 R0 => ?_)
  refine AW.seq ?_
  refine AW.region ?_
  refine AO.opB (O.box rfl rfl rfl rfl rfl) rfl rfl rfl ?_
  intro B1
  refine AO.op (O.assign rfl rfl) rfl rfl rfl ?_
  refine AO.nil ?_
  refine AQ.thenN ?_
  refine AW.seq ?_
  refine AW.region ?_
  refine AO.op (O.fieldAddr rfl rfl) rfl rfl rfl ?_
  refine AO.op (O.load rfl rfl (by repeat (exact List.Mem.head _)) (by rfl)) rfl rfl rfl ?_
  refine AO.op (O.loadR rfl rfl (by rfl)) rfl rfl rfl ?_
  refine AO.op (O.neq rfl rfl rfl (by rfl)) rfl rfl rfl ?_
  refine AO.op (O.move rfl rfl) rfl rfl rfl ?_
  refine AO.opG rfl rfl rfl (fun hp => O.fieldAddr rfl rfl) ?_
  refine AO.opG rfl rfl rfl (fun hp => OpW.force 10 rfl (by exact hp) (O.load rfl rfl (by repeat (exact List.Mem.head _)) (by rfl))) ?_
  refine AO.opG rfl rfl rfl (fun hp => O.loadR rfl rfl (by rfl)) ?_
  refine AO.opG rfl rfl rfl (fun hp => OpW.force 11 rfl (by exact hp) (OpW.force 12 rfl (by exact hp) (O.call rfl Try.func35 rfl rfl rfl (samen_fn _ _)))) ?_
  refine AO.opG rfl rfl rfl (fun hp => OpW.force 13 rfl (by exact hp) (O.not rfl rfl (by rfl))) ?_
  refine AO.op (O.pickOr rfl rfl rfl rfl (fun h => by exact congrArg (fun b => !b) h)) rfl rfl rfl ?_
  refine AO.op (O.assign rfl rfl) rfl rfl rfl ?_
  refine AO.nil ?_
  refine AQ.thenN ?_
  refine AW.ret ?_
  refine AQ.ret1 rfl rfl ⟨_, List.nil_sublist _, .nil⟩ (⟨rfl, rfl⟩)
theorem tar1_fn (x : Obs) (p : ByteArray) : Sp Try.prog 36 [aggOb x, .rp [.val (.string p)] 0] [] (Is (.val (.bool (eqS x.path p)))) := by
  refine Sp.enter Try.func36 rfl _ Try.ntmps36 rfl (fun w0 R0 => ?_)
  refine AW.seq ?_
  refine AW.region ?_
  refine AO.opB (O.box rfl rfl rfl rfl rfl) rfl rfl rfl ?_
  intro B1
  refine AO.op (O.assign rfl rfl) rfl rfl rfl ?_
  refine AO.nil ?_
  refine AQ.thenN ?_
  refine AW.seq ?_
  refine AW.region ?_
  refine AO.op (O.fieldAddr rfl rfl) rfl rfl rfl ?_
  refine AO.op (O.load rfl rfl (by repeat (exact List.Mem.head _)) (by rfl)) rfl rfl rfl ?_
  refine AO.op (O.loadR rfl rfl (by rfl)) rfl rfl rfl ?_
  refine AO.op (O.eqlS rfl rfl rfl (by rfl)) rfl rfl rfl ?_
  refine AO.op (O.assign rfl rfl) rfl rfl rfl ?_
  refine AO.nil ?_
  refine AQ.thenN ?_
  refine AW.ret ?_
  refine AQ.ret1 rfl rfl ⟨_, List.nil_sublist _, .nil⟩ (⟨rfl, rfl⟩)
theorem for1_fn (x : Obs) (p : Int) : Sp Try.prog 37 [aggOb x, .rp [.val (.int .i64 p)] 0] [] (Is (.val (.bool (x.peer != p)))) := by
  refine Sp.enter Try.func37 rfl _ Try.ntmps37 rfl (fun w0 R0 => ?_)
  refine AW.seq ?_
  refine AW.region ?_
  refine AO.opB (O.box rfl rfl rfl rfl rfl) rfl rfl rfl ?_
  intro B1
  refine AO.op (O.assign rfl rfl) rfl rfl rfl ?_
  refine AO.nil ?_
  refine AQ.thenN ?_
  refine AW.seq ?_
  refine AW.region ?_
  refine AO.op (O.fieldAddr rfl rfl) rfl rfl rfl ?_
  refine AO.op (O.load rfl rfl (by repeat (exact List.Mem.head _)) (by rfl)) rfl rfl rfl ?_
  refine AO.op (O.loadR rfl rfl (by rfl)) rfl rfl rfl ?_
  refine AO.op (O.neq rfl rfl rfl (by rfl)) rfl rfl rfl ?_
  refine AO.op (O.assign rfl rfl) rfl rfl rfl ?_
  refine AO.nil ?_
  refine AQ.thenN ?_
  refine AW.ret ?_
  refine AQ.ret1 rfl rfl ⟨_, List.nil_sublist _, .nil⟩ (⟨rfl, rfl⟩)
set_option maxHeartbeats 4000000 in
theorem filtered_fn (os : List Obs) (hsh : ShortOb os) (K : Obs → Bool) (f : FuncId) (caps : List AV) (g : Func) (hf : Try.prog.funcs[f]? = some g) (hn : (g.name == "runtime.NumGoroutine") = false) (hb : g.body.isNone = false)
    (hk : ∀ o, Sp Try.prog f ([aggOb o] ++ caps) [] (Is (.val (.bool (K o))))) :
    Sp Try.prog 28 [roOb os, .fn (.func f) caps] [] (NewRow 28 6 (os.filter K).length (obsA (os.filter K))) := by
  have hlen := hsh.1
  refine Sp.enter Try.func28 rfl _ Try.ntmps28 rfl (fun w0 R0 => ?_)
  refine AW.seq ?_
  refine AW.region ?_
  refine AO.op (O.assign rfl rfl) rfl rfl rfl ?_
  refine AO.nil ?_
  refine AQ.thenN ?_
  refine AW.seq ?_
  refine AW.region ?_
  refine AO.op (O.assign rfl rfl) rfl rfl rfl ?_
  refine AO.nil ?_
  refine AQ.thenN ?_
  refine AW.seq ?_
  refine AW.seq ?_
  refine AW.region ?_
  refine AO.op (O.move rfl rfl) rfl rfl rfl ?_
  refine AO.op (O.lenR rfl rfl) rfl rfl rfl ?_
  refine AO.op (O.move rfl rfl) rfl rfl rfl ?_
  refine AO.nil ?_
  refine AQ.thenN ?_
  refine AW.block ?_
  refine AW.g ?_
  refine G.nilRow 28 6 ?_
  refine AW.u ?_
  refine AW.loopK [(1, _), (8, _), (9, _)] (fun nn E H => ∃ (k : Nat) (V : Value), (k ≤ os.length) ∧ (V.oneCell' = true) ∧ nn = os.length - k ∧ E = [(5, .val V), (10, .val (.int .i64 (k : Int)))] ∧ H = [.row V 28 6 (keepO K os k).length (obsA (keepO K os k))]) _ (⟨0, .slice none 0 0, by omega, rfl, rfl, rfl, rfl⟩) (by repeat (first | exact envNil | refine envCons rfl ?_)) (by repeat (first | exact envNil | refine envCons rfl ?_)) (by repeat (first | exact subPnil | refine subPcons 0 rfl ?_)) ?_
  rintro nn E H ⟨k, V, hk1, hV, rfl, rfl, rfl⟩
  dsimp only [List.cons_append, List.nil_append]
  refine AW.seq ?_
  refine AW.region ?_
  refine AO.op (O.lss rfl rfl rfl (by rfl)) rfl rfl rfl ?_
  refine AO.nil ?_
  refine AQ.thenN ?_
  refine AW.seq ?_
  refine AW.split rfl (fun hlt => ?_) (fun hlt => ?_) <;> (try simp only [decide_eq_true_eq, decide_eq_false_iff_not, beq_iff_eq, beq_eq_false_iff_ne, bne_iff_ne, bne_eq_false_iff_eq, Bool.not_eq_true', Bool.not_eq_false', Bool.not_eq_true, Bool.not_eq_false, ne_eq, Int.not_lt, Int.not_le, Bool.and_eq_true, Bool.or_eq_true, Bool.or_eq_false_iff, Bool.and_eq_false_imp, strOf_toList, Decidable.not_not] at hlt)
  · skip
    have hkk : k < os.length := by omega
    have hle := keepO_le K os k
    have hv1 := (hsh.at hkk).1
    have hv2 := (hsh.at hkk).2.1
    have hv3 := (hsh.at hkk).2.2
    have hsc := keepO_succ (K := K) hkk
    have hck := hk (obat os k)
    refine AW.skip ?_
    refine AQ.thenN ?_
    refine AW.seq ?_
    refine AW.block ?_
    refine AW.seq ?_
    refine AW.region ?_
    refine AO.op (O.idxR rfl rfl rfl ⟨(by omega), (by omega)⟩) rfl rfl rfl ?_
    refine AO.op (O.loadRK rfl rfl (by exact getOb (by omega) (by omega)) (by rfl)) rfl rfl rfl ?_
    refine AO.opB (O.alloc rfl (by (dsimp only [List.set, List.append, List.cons_append, List.nil_append, roB_cells, roI_cells, roO_cells, splice, ofConst, AV.cells, List.map, List.map_cons, List.map_nil, List.take, List.drop, Nat.zero_add, Nat.add_zero, Nat.reduceAdd, Nat.reduceMul, Nat.zero_mul, Value.cells, List.toList_toArray, zerosA, List.replicate, List.flatten, List.append_nil]; done)) (by rfl)) rfl rfl rfl ?_
    intro B1
    (refine AO.store (i := 0) rfl rfl rfl rfl rfl rfl (by rfl) (by rfl) (by rfl) (by (dsimp only [List.set, List.append, List.cons_append, List.nil_append, roB_cells, roI_cells, roO_cells, splice, ofConst, AV.cells, List.map, List.map_cons, List.map_nil, List.take, List.drop, Nat.zero_add, Nat.add_zero, Nat.reduceAdd, Nat.reduceMul, Nat.zero_mul, Value.cells, List.toList_toArray, zerosA, List.replicate, List.flatten, List.append_nil]; done)) (by (dsimp only [List.set, List.append, List.cons_append, List.nil_append, roB_cells, roI_cells, roO_cells, splice, ofConst, AV.cells, List.map, List.map_cons, List.map_nil, List.take, List.drop, Nat.zero_add, Nat.add_zero, Nat.reduceAdd, Nat.reduceMul, Nat.zero_mul, Value.cells, List.toList_toArray, zerosA, List.replicate, List.flatten, List.append_nil]; done)) ?_)
    refine AO.nil ?_
    refine AQ.thenN ?_
    refine AW.seq ?_
    refine AW.region ?_
    refine AO.op (O.move rfl rfl) rfl rfl rfl ?_
    refine AO.op (O.loadK rfl rfl (by repeat (exact List.Mem.head _)) (by rfl) (by rfl)) rfl rfl rfl ?_
    refine AO.op (O.callV rfl rfl hf hn hb rfl hck) rfl rfl rfl ?_
    refine AO.nil ?_
    refine AQ.thenN ?_
    refine AW.split rfl (fun hK => ?_) (fun hK => ?_) <;> (try simp only [decide_eq_true_eq, decide_eq_false_iff_not, beq_iff_eq, beq_eq_false_iff_ne, bne_iff_ne, bne_eq_false_iff_eq, Bool.not_eq_true', Bool.not_eq_false', Bool.not_eq_true, Bool.not_eq_false, ne_eq, Int.not_lt, Int.not_le, Bool.and_eq_true, Bool.or_eq_true, Bool.or_eq_false_iff, Bool.and_eq_false_imp, strOf_toList, Decidable.not_not] at hK)
    · skip
      rw [if_pos hK] at hsc
      refine AW.seq ?_
      refine AW.regionD 7 (by kernel_rfl) (by kernel_rfl) ?_
      simp only [List.take_succ_cons, List.take_zero, List.drop_succ_cons, List.drop_zero]
      refine FA.op (O.fieldAddr rfl rfl) rfl rfl rfl rfl ?_
      refine FA.op (O.load rfl rfl (by repeat (exact List.Mem.head _)) (by rfl)) rfl rfl rfl rfl ?_
      refine FA.op (O.call rfl Try.func30 rfl rfl rfl (copiedn_fn _ (by assumption))) rfl rfl rfl rfl ?_
      refine FA.op (O.fieldAddr rfl rfl) rfl rfl rfl rfl ?_
      refine FA.op (O.loadK rfl rfl (by repeat (exact List.Mem.head _)) (by rfl) (by rfl)) rfl rfl rfl rfl ?_
      refine FA.op (O.call rfl Try.func31 rfl rfl rfl (bind_fn _ _ _ hv2 hv3)) rfl rfl rfl rfl ?_
      refine FA.op (O.fieldAddr rfl rfl) rfl rfl rfl rfl ?_
      refine FA.nil ?_
      simp only [chosen, List.nil_append, List.cons_append, List.append_nil]
      (refine AO.store (i := 0) rfl rfl rfl rfl rfl rfl (by rfl) (by rfl) (by rfl) (by (dsimp only [List.set, List.append, List.cons_append, List.nil_append, roB_cells, roI_cells, roO_cells, splice, ofConst, AV.cells, List.map, List.map_cons, List.map_nil, List.take, List.drop, Nat.zero_add, Nat.add_zero, Nat.reduceAdd, Nat.reduceMul, Nat.zero_mul, Value.cells, List.toList_toArray, zerosA, List.replicate, List.flatten, List.append_nil]; done)) (by (dsimp only [List.set, List.append, List.cons_append, List.nil_append, roB_cells, roI_cells, roO_cells, splice, ofConst, AV.cells, List.map, List.map_cons, List.map_nil, List.take, List.drop, Nat.zero_add, Nat.add_zero, Nat.reduceAdd, Nat.reduceMul, Nat.zero_mul, Value.cells, List.toList_toArray, zerosA, List.replicate, List.flatten, List.append_nil]; done)) ?_)
      refine AO.op (O.fieldAddr rfl rfl) rfl rfl rfl ?_
      (refine AO.store (i := 0) rfl rfl rfl rfl rfl rfl (by rfl) (by rfl) (by rfl) (by (dsimp only [List.set, List.append, List.cons_append, List.nil_append, roB_cells, roI_cells, roO_cells, splice, ofConst, AV.cells, List.map, List.map_cons, List.map_nil, List.take, List.drop, Nat.zero_add, Nat.add_zero, Nat.reduceAdd, Nat.reduceMul, Nat.zero_mul, Value.cells, List.toList_toArray, zerosA, List.replicate, List.flatten, List.append_nil]; done)) (by (dsimp only [List.set, List.append, List.cons_append, List.nil_append, roB_cells, roI_cells, roO_cells, splice, ofConst, AV.cells, List.map, List.map_cons, List.map_nil, List.take, List.drop, Nat.zero_add, Nat.add_zero, Nat.reduceAdd, Nat.reduceMul, Nat.zero_mul, Value.cells, List.toList_toArray, zerosA, List.replicate, List.flatten, List.append_nil]; done)) ?_)
      refine AO.nil ?_
      refine AQ.thenN ?_
      refine AW.region ?_
      refine AO.op (O.move rfl rfl) rfl rfl rfl ?_
      refine AO.op (O.loadK rfl rfl (by repeat (exact List.Mem.head _)) (by rfl) (by rfl)) rfl rfl rfl ?_
      refine AO.opB (O.buildSlice rfl rfl rfl (by rfl) (by rfl) (by rfl) (by rfl)) rfl rfl rfl ?_
      intro B2
      refine AO.g ?_
      (refine G.freezeSl 0 27 rfl rfl ⟨Nat.le_refl _, by unfold maxLen; omega⟩ ?_)
      refine G.unfull 27 rfl ?_
      refine AO.u ?_
      dsimp only [List.eraseIdx]
      (refine AO.append' (i := 1) rfl rfl rfl rfl (by rfl) (by rfl) rfl rfl rfl (by exact SrcA.ro TyD.ax (by rfl) (Nat.le_of_ble_eq_true rfl)) (by rfl) (by (unfold maxLen; omega)) (by omega) (by (dsimp only [List.set, List.append, List.cons_append, List.nil_append, roB_cells, roI_cells, roO_cells, splice, ofConst, AV.cells, List.map, List.map_cons, List.map_nil, List.take, List.drop, Nat.zero_add, Nat.add_zero, Nat.reduceAdd, Nat.reduceMul, Nat.zero_mul, Value.cells, List.toList_toArray, zerosA, List.replicate, List.flatten, List.append_nil]; done)) (fun _ => by (dsimp only [List.set]; done)) ?_)
      intro V3 hV3
      refine AO.op (O.assign rfl rfl) rfl rfl rfl ?_
      refine AO.nil ?_
      refine AQ.blockN ?_
      refine AQ.thenN ?_
      refine AW.region ?_
      refine AO.op (O.add rfl rfl rfl (by exact wI64 (by omega))) rfl rfl rfl ?_
      refine AO.op (O.move rfl rfl) rfl rfl rfl ?_
      refine AO.nil ?_
      refine AQ.loopKN _ _ _ (by omega) (⟨k + 1, _, by omega, ‹_›, rfl, rfl, by rw [hsc, obsA_snoc, List.length_append]⟩) (by repeat (first | exact envNil | refine envCons rfl ?_)) (by repeat (first | exact envNil | refine envCons rfl ?_)) (by repeat (first | exact subPnil | refine subPcons 1 rfl ?_))
    · skip
      rw [if_neg (by rw [hK]; exact Bool.false_ne_true), List.append_nil] at hsc
      refine AW.skip ?_
      refine AQ.blockN ?_
      refine AQ.thenN ?_
      refine AW.region ?_
      refine AO.op (O.add rfl rfl rfl (by exact wI64 (by omega))) rfl rfl rfl ?_
      refine AO.op (O.move rfl rfl) rfl rfl rfl ?_
      refine AO.nil ?_
      refine AQ.loopKN _ _ _ (by omega) (⟨k + 1, V, by omega, hV, rfl, rfl, by rw [hsc]⟩) (by repeat (first | exact envNil | refine envCons rfl ?_)) (by repeat (first | exact envNil | refine envCons rfl ?_)) (by repeat (first | exact subPnil | refine subPcons 1 rfl ?_))
  · skip
    obtain rfl : k = os.length := by omega
    rw [keepO_all]
    refine AW.exit ?_
    refine AQ.thenX ?_
    refine AQ.loopX ?_
    refine AQ.blockX rfl ?_
    refine AQ.thenN ?_
    refine AW.seq ?_
    refine AW.region ?_
    refine AO.op (O.move rfl rfl) rfl rfl rfl ?_
    refine AO.op (O.assign rfl rfl) rfl rfl rfl ?_
    refine AO.nil ?_
    refine AQ.thenN ?_
    refine AW.ret ?_
    refine AQ.ret1 rfl rfl ⟨_, by repeat (first | exact List.Sublist.slnil | refine List.Sublist.cons_cons _ ?_), List.Perm.refl _⟩ (⟨V, rfl, hV, rfl⟩)
def OkOb (os : List Obs) (k : Nat) : Prop := ∀ i, i < k → rightB (obat os i) = true ∧ ∀ j, j < i → meetsB (obat os i) (obat os j) = false
instance (os : List Obs) (k : Nat) : Decidable (OkOb os k) := by unfold OkOb; infer_instance
def validOb (os : List Obs) : Bool := decide (os.length ≤ 16 ∧ OkOb os os.length)
def regR (os : List Obs) (o : Obs) : List Obs × Int :=
  if validOb os = true ∧ rightB o = true then (if 16 ≤ (os.filter fun x => !meetsB x o).length then ([], 16) else ((os.filter fun x => !meetsB x o) ++ [o], 0)) else ([], 1)
abbrev resOb (r : List Obs × Int) : AV := .tup [roOb r.1, .val (.int .i64 r.2)]
theorem retOb {r : List Obs × Int} {a : List Obs} {e : Int} (h : r = (a, e)) : Is (resOb r) (.tup [roOb a, .val (.int .i64 e)]) [] := by rw [h]; exact ⟨rfl, rfl⟩
def canK (p : Int) (tk : List UInt8) (x : Obs) : Bool := x.peer != p || !(x.tok == tk)
def canR (os : List Obs) (p : Int) (tk : List UInt8) : List Obs := os.filter (canK p tk)
def tarR (os : List Obs) (p : ByteArray) : List Obs := os.filter fun x => eqS x.path p
def forR (os : List Obs) (p : Int) : List Obs := os.filter fun x => x.peer != p
theorem cancel_fn (os : List Obs) (p : Int) (tk : List UInt8) (hsh : ShortOb os) : Sp Try.prog 14 [roOb os, .val (.int .i64 p), roB tk] [] (Is (.tup [roOb (canR os p tk), .val (.bool (decide (((canR os p tk).length : Int) < (os.length : Int))))])) := by
  have hlen := hsh.1
  have hfl := List.length_filter_le (canK p tk) os
  refine Sp.enter Try.func14 rfl _ Try.ntmps14 rfl (fun w0 R0 => ?_)
  refine AW.seq ?_
  refine AW.region ?_
  refine AO.opB (O.box rfl rfl rfl rfl rfl) rfl rfl rfl ?_
  intro B1
  refine AO.opB (O.box rfl rfl rfl rfl rfl) rfl rfl rfl ?_
  intro B2
  refine AO.op (O.assign rfl rfl) rfl rfl rfl ?_
  refine AO.op (O.assign rfl rfl) rfl rfl rfl ?_
  refine AO.nil ?_
  refine AQ.thenN ?_
  refine AW.seq ?_
  refine AW.region ?_
  refine AO.op (O.move rfl rfl) rfl rfl rfl ?_
  refine AO.g ?_
  refine G.freezePtr 1 4 rfl rfl ?_
  refine AO.u ?_
  dsimp only [List.eraseIdx]
  refine AO.g ?_
  refine G.freezePtr 0 5 rfl rfl ?_
  refine AO.u ?_
  dsimp only [List.eraseIdx]
  refine AO.op (O.fn rfl rfl) rfl rfl rfl ?_
  refine AO.opRow (O.call rfl Try.func28 rfl rfl rfl (filtered_fn os hsh (canK p tk) 34 _ _ Try.func34 rfl rfl (fun x => can1_fn x p tk))) rfl rfl rfl ?_
  intro V3 hV3
  refine AO.op (O.assign rfl rfl) rfl rfl rfl ?_
  refine AO.nil ?_
  refine AQ.thenN ?_
  refine AW.seq ?_
  refine AW.region ?_
  refine AO.op (O.move rfl rfl) rfl rfl rfl ?_
  refine AO.op (O.move rfl rfl) rfl rfl rfl ?_
  refine AO.op (O.lenRow rfl rfl (by repeat (exact List.Mem.head _))) rfl rfl rfl ?_
  refine AO.op (O.move rfl rfl) rfl rfl rfl ?_
  refine AO.op (O.lenR rfl rfl) rfl rfl rfl ?_
  refine AO.op (O.lss rfl rfl rfl (by rfl)) rfl rfl rfl ?_
  refine AO.op (O.assign rfl rfl) rfl rfl rfl ?_
  refine AO.op (O.assign rfl rfl) rfl rfl rfl ?_
  refine AO.nil ?_
  refine AQ.thenN ?_
  refine AW.ret ?_
  refine AQ.g ?_
  refine G.freezeRow 0 rfl [6] (by repeat (first | exact frNil | refine frCons rfl ?_)) ?_
  refine AQ.u ?_
  try dsimp only [List.map, List.eraseIdx, List.cons_append, List.nil_append]
  refine AQ.ret2 rfl rfl rfl ⟨_, List.nil_sublist _, .nil⟩ (⟨rfl, rfl⟩)
theorem targets_fn (os : List Obs) (p : ByteArray) (hsh : ShortOb os) : Sp Try.prog 16 [roOb os, .val (.string p)] [] (Is (roOb (tarR os p))) := by
  refine Sp.enter Try.func16 rfl _ Try.ntmps16 rfl (fun w0 R0 => ?_)
  refine AW.seq ?_
  refine AW.region ?_
  refine AO.opB (O.box rfl rfl rfl rfl rfl) rfl rfl rfl ?_
  intro B1
  refine AO.op (O.assign rfl rfl) rfl rfl rfl ?_
  refine AO.nil ?_
  refine AQ.thenN ?_
  refine AW.seq ?_
  refine AW.region ?_
  refine AO.op (O.move rfl rfl) rfl rfl rfl ?_
  refine AO.g ?_
  refine G.freezePtr 0 3 rfl rfl ?_
  refine AO.u ?_
  dsimp only [List.eraseIdx]
  refine AO.op (O.fn rfl rfl) rfl rfl rfl ?_
  refine AO.opRow (O.call rfl Try.func28 rfl rfl rfl (filtered_fn os hsh (fun x => eqS x.path p) 36 _ _ Try.func36 rfl rfl (fun x => tar1_fn x p))) rfl rfl rfl ?_
  intro V2 hV2
  refine AO.op (O.assign rfl rfl) rfl rfl rfl ?_
  refine AO.nil ?_
  refine AQ.thenN ?_
  refine AW.ret ?_
  refine AQ.g ?_
  refine G.freezeRow 0 rfl [4] (by repeat (first | exact frNil | refine frCons rfl ?_)) ?_
  refine AQ.u ?_
  try dsimp only [List.map, List.eraseIdx, List.cons_append, List.nil_append]
  refine AQ.ret1 rfl rfl ⟨_, List.nil_sublist _, .nil⟩ (⟨rfl, rfl⟩)
theorem forget_fn (os : List Obs) (p : Int) (hsh : ShortOb os) : Sp Try.prog 18 [roOb os, .val (.int .i64 p)] [] (Is (roOb (forR os p))) := by
  refine Sp.enter Try.func18 rfl _ Try.ntmps18 rfl (fun w0 R0 => ?_)
  refine AW.seq ?_
  refine AW.region ?_
  refine AO.opB (O.box rfl rfl rfl rfl rfl) rfl rfl rfl ?_
  intro B1
  refine AO.op (O.assign rfl rfl) rfl rfl rfl ?_
  refine AO.nil ?_
  refine AQ.thenN ?_
  refine AW.seq ?_
  refine AW.region ?_
  refine AO.op (O.move rfl rfl) rfl rfl rfl ?_
  refine AO.g ?_
  refine G.freezePtr 0 3 rfl rfl ?_
  refine AO.u ?_
  dsimp only [List.eraseIdx]
  refine AO.op (O.fn rfl rfl) rfl rfl rfl ?_
  refine AO.opRow (O.call rfl Try.func28 rfl rfl rfl (filtered_fn os hsh (fun x => x.peer != p) 37 _ _ Try.func37 rfl rfl (fun x => for1_fn x p))) rfl rfl rfl ?_
  intro V2 hV2
  refine AO.op (O.assign rfl rfl) rfl rfl rfl ?_
  refine AO.nil ?_
  refine AQ.thenN ?_
  refine AW.ret ?_
  refine AQ.g ?_
  refine G.freezeRow 0 rfl [4] (by repeat (first | exact frNil | refine frCons rfl ?_)) ?_
  refine AQ.u ?_
  try dsimp only [List.map, List.eraseIdx, List.cons_append, List.nil_append]
  refine AQ.ret1 rfl rfl ⟨_, List.nil_sublist _, .nil⟩ (⟨rfl, rfl⟩)
end Go.Proofs.Ytjgmedmakbjkdaa.By

namespace Go.Proofs.Ytjgmedmakbjkdaa.A
open Go.RowKit L
set_option linter.unusedVariables false
set_option linter.unusedSimpArgs false
section
variable {Γ : Cx} {P : Program} {Q : Exit → Act → World → Prop} {E : Env} {H : List HE} {N : Nat} {o : Oper} {ops : Array Oper} {rest : List Oper}
theorem AO.callMV {f : FuncId} {g : Operand} {cap : List AV} {d : Nat} {xs : List Operand} {ats : Array TypeId} {args : List AV} {H0 H1 : List HE} {Post : AV → List HE → Prop} {fn : Func} (ho : o.op = .call { callee := .value g, args := xs.toArray, argTypes := ats }) (hgd : o.guard = none) (hg : ev E g = some (.fn (.func f) cap)) (hfn : P.funcs[f]? = some fn) (hn : (fn.name == "runtime.NumGoroutine") = false) (hb : fn.body.isNone = false)
    (hx : evs E xs = some args) (hd : o.dst = some d) (hN : d < Γ.N) (hH : H.Perm (H0 ++ H1)) (h : Sp P f (args ++ cap) H0 Post) (next : ∀ r H', Post r H' → AO Γ P ops Q rest ((d, r) :: E) (H' ++ H1)) : AO Γ P ops Q (o :: rest) E H := fun R a W hs ha => by
  have hs0 := hs.perm hH.symm
  obtain ⟨cs, h4, h5⟩ := (ha.ev hg).fn_inv
  have hrun : (execOp a.eval o).run P W = .ok (.enter f ((xs.map a.eval) ++ cs).toArray) W := by
    simp [execOp, ho, resolve, Deferred.ofValue, h4, invoke, callFunc, hfn]
    rw [if_neg (by simpa using hn), if_neg (fun e => by rw [e] at hb; cases hb)]
  have hc := h W R (xs.map a.eval ++ cs) hs.rlt (fun e he => ⟨hs0.ok e (List.mem_append_left _ he), fun b hb => (hs0.own e (List.mem_append_left _ he) b hb).2⟩) (List.pairwise_append.1 hs0.disj).1 ((ha.evs hx).app h5)
  unfold wpList
  rw [if_pos (by unfold Region.wanted; rw [hgd])]
  refine .inl ?_
  unfold Oper.wp
  rw [hrun]
  refine Calls.mono hc ?_
  rintro e W' ⟨u, r, H', R', rfl, hP, hs', hv⟩
  show wpList P ops Q rest (a.put o.dst u) W'
  rw [hd]
  have hS0 : ∀ b, footOf H0 b → Γ.w0.heap.size ≤ b ∨ Γ.S b := fun b ⟨e, he, hb⟩ => (hs0.own e (List.mem_append_left _ he) b hb).1
  have hnR : ∀ b, footOf H0 b → ¬ R b := fun b ⟨e, he, hb⟩ => (hs0.own e (List.mem_append_left _ he) b hb).2
  have h1lt : ∀ e ∈ H1, ∀ b, e.foot b → b < W.heap.size := fun e he b hb => HE.ok_lt (hs0.ok e (List.mem_append_right _ he)) hb
  have h10 : ∀ e ∈ H1, ∀ b, e.foot b → ¬ footOf H0 b := fun e he b hb ⟨f, hf, hb'⟩ => (List.pairwise_append.1 hs0.disj).2.2 f hf e he b hb' hb
  have hR : ∀ b, R b → W'.heap[b]? = W.heap[b]? := fun b hb => hs'.mods.block b (hs.rlt b hb) fun hh => hnR b hh hb
  refine next r H' hP R' _ W' ⟨Mods.then hs.mods hs'.mods fun b hb hh => ?_, hs'.rlt, fun b hb => hs'.rsub b (hs.rsub b hb), fun b hb => ?_, ?_, ?_, ?_⟩ ((ha.mono hs'.rsub hR).put hN hv)
  · rcases hS0 b hh with h | h
    · omega
    · exact h
  · rcases hs'.rnew b hb with h | h | h
    · exact hs.rnew b h
    · exact .inr (.inl (Nat.le_trans hs.mods.size h))
    · exact .inr (hS0 b h)
  · intro e he
    rcases List.mem_append.1 he with he | he
    · exact hs'.ok e he
    · exact HE.ok_mono hs'.rsub hR hs'.mods.size (fun b hb => hs'.mods.block b (h1lt e he b hb) (h10 e he b hb)) (hs0.ok e (List.mem_append_right _ he))
  · intro e he b hb
    rcases List.mem_append.1 he with he | he
    · obtain ⟨h2, h3⟩ := hs'.own e he b hb
      refine ⟨?_, h3⟩
      rcases h2 with h2 | h2
      · exact .inl (Nat.le_trans hs.mods.size h2)
      · exact hS0 b h2
    · refine ⟨(hs0.own e (List.mem_append_right _ he) b hb).1, fun hr => ?_⟩
      rcases hs'.rnew b hr with h | h | h
      · exact (hs0.own e (List.mem_append_right _ he) b hb).2 h
      · have h5 := h1lt e he b hb
        exact absurd h (by simpa using h5)
      · exact h10 e he b hb h
  · rw [List.pairwise_append]
    refine ⟨hs'.disj, (List.pairwise_append.1 hs0.disj).2.1, fun e he f hf b hb hb' => ?_⟩
    rcases (hs'.own e he b hb).1 with h | h
    · have h5 := h1lt f hf b hb'
      exact absurd h (by simpa using h5)
    · exact h10 f hf b hb' h

theorem AO.callMV1 {f : FuncId} {g : Operand} {cap : List AV} {d : Nat} {xs : List Operand} {ats : Array TypeId} {args : List AV} {i : Nat} {e e' : HE} {v : AV} {H' : List HE} {fn : Func} (ho : o.op = .call { callee := .value g, args := xs.toArray, argTypes := ats }) (hgd : o.guard = none) (hg : ev E g = some (.fn (.func f) cap)) (hfn : P.funcs[f]? = some fn) (hn : (fn.name == "runtime.NumGoroutine") = false) (hb : fn.body.isNone = false)
    (hx : evs E xs = some args) (hd : o.dst = some d) (hN : Nat.ble (d + 1) Γ.N = true) (hi : H[i]? = some e) (h : Sp P f (args ++ cap) [e] (IsM v e')) (hH : H.set i e' = H') (next : AO Γ P ops Q rest ((d, v) :: E) H') : AO Γ P ops Q (o :: rest) E H :=
  AO.callMV (H0 := [e]) (H1 := H.eraseIdx i) ho hgd hg hfn hn hb hx hd (Nat.le_of_ble_eq_true hN) (perm_idx hi) h (by
    rintro _ _ ⟨rfl, rfl⟩
    exact AO.perm (by rw [← hH]; exact perm_set hi) next)
end
end Go.Proofs.Ytjgmedmakbjkdaa.A

namespace Go.Proofs.Ytjgmedmakbjkdaa.By
open Go.RowKit L A
set_option linter.unusedVariables false
set_option linter.unusedSimpArgs false
attribute [local irreducible] AW AQ AO
set_option maxHeartbeats 4000000 in
theorem filteredM_fn (os : List Obs) (hsh : ShortOb os) (K : Obs → Bool) (f : FuncId) (caps : List AV) (g : Func) (hf : Try.prog.funcs[f]? = some g) (hn : (g.name == "runtime.NumGoroutine") = false) (hb : g.body.isNone = false)
    (e : HE) (hk : ∀ o, Sp Try.prog f ([aggOb o] ++ caps) [e] (IsM (.val (.bool (K o))) e)) :
    Sp Try.prog 28 [roOb os, .fn (.func f) caps] [e] (fun r H' => ∃ v : Value, r = .val v ∧ v.oneCell' = true ∧ H' = [.row v 28 6 (os.filter K).length (obsA (os.filter K)), e]) := by
  have hlen := hsh.1
  refine Sp.enter Try.func28 rfl _ Try.ntmps28 rfl (fun w0 R0 => ?_)
  refine AW.seq ?_
  refine AW.region ?_
  refine AO.op (O.assign rfl rfl) rfl rfl rfl ?_
  refine AO.nil ?_
  refine AQ.thenN ?_
  refine AW.seq ?_
  refine AW.region ?_
  refine AO.op (O.assign rfl rfl) rfl rfl rfl ?_
  refine AO.nil ?_
  refine AQ.thenN ?_
  refine AW.seq ?_
  refine AW.seq ?_
  refine AW.region ?_
  refine AO.op (O.move rfl rfl) rfl rfl rfl ?_
  refine AO.op (O.lenR rfl rfl) rfl rfl rfl ?_
  refine AO.op (O.move rfl rfl) rfl rfl rfl ?_
  refine AO.nil ?_
  refine AQ.thenN ?_
  refine AW.block ?_
  refine AW.g ?_
  refine G.nilRow 28 6 ?_
  refine AW.u ?_
  refine AW.loopK [(1, _), (8, _), (9, _)] (fun nn E H => ∃ (k : Nat) (V : Value), (k ≤ os.length) ∧ (V.oneCell' = true) ∧ nn = os.length - k ∧ E = [(5, .val V), (10, .val (.int .i64 (k : Int)))] ∧ H = [.row V 28 6 (keepO K os k).length (obsA (keepO K os k)), e]) _ (⟨0, .slice none 0 0, by omega, rfl, rfl, rfl, rfl⟩) (by repeat (first | exact envNil | refine envCons rfl ?_)) (by repeat (first | exact envNil | refine envCons rfl ?_)) (by repeat (first | exact subPnil | refine subPcons 0 rfl ?_)) ?_
  rintro nn E H ⟨k, V, hk1, hV, rfl, rfl, rfl⟩
  dsimp only [List.cons_append, List.nil_append]
  refine AW.seq ?_
  refine AW.region ?_
  refine AO.op (O.lss rfl rfl rfl (by rfl)) rfl rfl rfl ?_
  refine AO.nil ?_
  refine AQ.thenN ?_
  refine AW.seq ?_
  refine AW.split rfl (fun hlt => ?_) (fun hlt => ?_) <;> (try simp only [decide_eq_true_eq, decide_eq_false_iff_not, beq_iff_eq, beq_eq_false_iff_ne, bne_iff_ne, bne_eq_false_iff_eq, Bool.not_eq_true', Bool.not_eq_false', Bool.not_eq_true, Bool.not_eq_false, ne_eq, Int.not_lt, Int.not_le, Bool.and_eq_true, Bool.or_eq_true, Bool.or_eq_false_iff, Bool.and_eq_false_imp, strOf_toList, Decidable.not_not] at hlt)
  · skip
    have hkk : k < os.length := by omega
    have hle := keepO_le K os k
    have hv1 := (hsh.at hkk).1
    have hv2 := (hsh.at hkk).2.1
    have hv3 := (hsh.at hkk).2.2
    have hsc := keepO_succ (K := K) hkk
    have hck := hk (obat os k)
    refine AW.skip ?_
    refine AQ.thenN ?_
    refine AW.seq ?_
    refine AW.block ?_
    refine AW.seq ?_
    refine AW.region ?_
    refine AO.op (O.idxR rfl rfl rfl ⟨(by omega), (by omega)⟩) rfl rfl rfl ?_
    refine AO.op (O.loadRK rfl rfl (by exact getOb (by omega) (by omega)) (by rfl)) rfl rfl rfl ?_
    refine AO.opB (O.alloc rfl (by (dsimp only [List.set, List.append, List.cons_append, List.nil_append, roB_cells, roI_cells, roO_cells, splice, ofConst, AV.cells, List.map, List.map_cons, List.map_nil, List.take, List.drop, Nat.zero_add, Nat.add_zero, Nat.reduceAdd, Nat.reduceMul, Nat.zero_mul, Value.cells, List.toList_toArray, zerosA, List.replicate, List.flatten, List.append_nil]; done)) (by rfl)) rfl rfl rfl ?_
    intro B1
    (refine AO.store (i := 0) rfl rfl rfl rfl rfl rfl (by rfl) (by rfl) (by rfl) (by (dsimp only [List.set, List.append, List.cons_append, List.nil_append, roB_cells, roI_cells, roO_cells, splice, ofConst, AV.cells, List.map, List.map_cons, List.map_nil, List.take, List.drop, Nat.zero_add, Nat.add_zero, Nat.reduceAdd, Nat.reduceMul, Nat.zero_mul, Value.cells, List.toList_toArray, zerosA, List.replicate, List.flatten, List.append_nil]; done)) (by (dsimp only [List.set, List.append, List.cons_append, List.nil_append, roB_cells, roI_cells, roO_cells, splice, ofConst, AV.cells, List.map, List.map_cons, List.map_nil, List.take, List.drop, Nat.zero_add, Nat.add_zero, Nat.reduceAdd, Nat.reduceMul, Nat.zero_mul, Value.cells, List.toList_toArray, zerosA, List.replicate, List.flatten, List.append_nil]; done)) ?_)
    refine AO.nil ?_
    refine AQ.thenN ?_
    refine AW.seq ?_
    refine AW.region ?_
    refine AO.op (O.move rfl rfl) rfl rfl rfl ?_
    refine AO.op (O.loadK rfl rfl (by repeat (exact List.Mem.head _)) (by rfl) (by rfl)) rfl rfl rfl ?_
    (refine AO.callMV1 (i := 2) rfl rfl rfl hf hn hb rfl rfl rfl rfl (hck) (by (dsimp only [List.set, List.append, List.cons_append, List.nil_append, roB_cells, roI_cells, roO_cells, splice, ofConst, AV.cells, List.map, List.map_cons, List.map_nil, List.take, List.drop, Nat.zero_add, Nat.add_zero, Nat.reduceAdd, Nat.reduceMul, Nat.zero_mul, Value.cells, List.toList_toArray, zerosA, List.replicate, List.flatten, List.append_nil]; done)) ?_)
    refine AO.nil ?_
    refine AQ.thenN ?_
    refine AW.split rfl (fun hK => ?_) (fun hK => ?_) <;> (try simp only [decide_eq_true_eq, decide_eq_false_iff_not, beq_iff_eq, beq_eq_false_iff_ne, bne_iff_ne, bne_eq_false_iff_eq, Bool.not_eq_true', Bool.not_eq_false', Bool.not_eq_true, Bool.not_eq_false, ne_eq, Int.not_lt, Int.not_le, Bool.and_eq_true, Bool.or_eq_true, Bool.or_eq_false_iff, Bool.and_eq_false_imp, strOf_toList, Decidable.not_not] at hK)
    · skip
      rw [if_pos hK] at hsc
      refine AW.seq ?_
      refine AW.regionD 7 (by kernel_rfl) (by kernel_rfl) ?_
      simp only [List.take_succ_cons, List.take_zero, List.drop_succ_cons, List.drop_zero]
      refine FA.op (O.fieldAddr rfl rfl) rfl rfl rfl rfl ?_
      refine FA.op (O.load rfl rfl (by repeat (exact List.Mem.head _)) (by rfl)) rfl rfl rfl rfl ?_
      refine FA.op (O.call rfl Try.func30 rfl rfl rfl (copiedn_fn _ (by assumption))) rfl rfl rfl rfl ?_
      refine FA.op (O.fieldAddr rfl rfl) rfl rfl rfl rfl ?_
      refine FA.op (O.loadK rfl rfl (by repeat (exact List.Mem.head _)) (by rfl) (by rfl)) rfl rfl rfl rfl ?_
      refine FA.op (O.call rfl Try.func31 rfl rfl rfl (bind_fn _ _ _ hv2 hv3)) rfl rfl rfl rfl ?_
      refine FA.op (O.fieldAddr rfl rfl) rfl rfl rfl rfl ?_
      refine FA.nil ?_
      simp only [chosen, List.nil_append, List.cons_append, List.append_nil]
      (refine AO.store (i := 0) rfl rfl rfl rfl rfl rfl (by rfl) (by rfl) (by rfl) (by (dsimp only [List.set, List.append, List.cons_append, List.nil_append, roB_cells, roI_cells, roO_cells, splice, ofConst, AV.cells, List.map, List.map_cons, List.map_nil, List.take, List.drop, Nat.zero_add, Nat.add_zero, Nat.reduceAdd, Nat.reduceMul, Nat.zero_mul, Value.cells, List.toList_toArray, zerosA, List.replicate, List.flatten, List.append_nil]; done)) (by (dsimp only [List.set, List.append, List.cons_append, List.nil_append, roB_cells, roI_cells, roO_cells, splice, ofConst, AV.cells, List.map, List.map_cons, List.map_nil, List.take, List.drop, Nat.zero_add, Nat.add_zero, Nat.reduceAdd, Nat.reduceMul, Nat.zero_mul, Value.cells, List.toList_toArray, zerosA, List.replicate, List.flatten, List.append_nil]; done)) ?_)
      refine AO.op (O.fieldAddr rfl rfl) rfl rfl rfl ?_
      (refine AO.store (i := 0) rfl rfl rfl rfl rfl rfl (by rfl) (by rfl) (by rfl) (by (dsimp only [List.set, List.append, List.cons_append, List.nil_append, roB_cells, roI_cells, roO_cells, splice, ofConst, AV.cells, List.map, List.map_cons, List.map_nil, List.take, List.drop, Nat.zero_add, Nat.add_zero, Nat.reduceAdd, Nat.reduceMul, Nat.zero_mul, Value.cells, List.toList_toArray, zerosA, List.replicate, List.flatten, List.append_nil]; done)) (by (dsimp only [List.set, List.append, List.cons_append, List.nil_append, roB_cells, roI_cells, roO_cells, splice, ofConst, AV.cells, List.map, List.map_cons, List.map_nil, List.take, List.drop, Nat.zero_add, Nat.add_zero, Nat.reduceAdd, Nat.reduceMul, Nat.zero_mul, Value.cells, List.toList_toArray, zerosA, List.replicate, List.flatten, List.append_nil]; done)) ?_)
      refine AO.nil ?_
      refine AQ.thenN ?_
      refine AW.region ?_
      refine AO.op (O.move rfl rfl) rfl rfl rfl ?_
      refine AO.op (O.loadK rfl rfl (by repeat (exact List.Mem.head _)) (by rfl) (by rfl)) rfl rfl rfl ?_
      refine AO.opB (O.buildSlice rfl rfl rfl (by rfl) (by rfl) (by rfl) (by rfl)) rfl rfl rfl ?_
      intro B2
      refine AO.g ?_
      (refine G.freezeSl 0 27 rfl rfl ⟨Nat.le_refl _, by unfold maxLen; omega⟩ ?_)
      refine G.unfull 27 rfl ?_
      refine AO.u ?_
      dsimp only [List.eraseIdx]
      (refine AO.append' (i := 1) rfl rfl rfl rfl (by rfl) (by rfl) rfl rfl rfl (by exact SrcA.ro TyD.ax (by rfl) (Nat.le_of_ble_eq_true rfl)) (by rfl) (by (unfold maxLen; omega)) (by omega) (by (dsimp only [List.set, List.append, List.cons_append, List.nil_append, roB_cells, roI_cells, roO_cells, splice, ofConst, AV.cells, List.map, List.map_cons, List.map_nil, List.take, List.drop, Nat.zero_add, Nat.add_zero, Nat.reduceAdd, Nat.reduceMul, Nat.zero_mul, Value.cells, List.toList_toArray, zerosA, List.replicate, List.flatten, List.append_nil]; done)) (fun _ => by (dsimp only [List.set]; done)) ?_)
      intro V3 hV3
      refine AO.op (O.assign rfl rfl) rfl rfl rfl ?_
      refine AO.nil ?_
      refine AQ.blockN ?_
      refine AQ.thenN ?_
      refine AW.region ?_
      refine AO.op (O.add rfl rfl rfl (by exact wI64 (by omega))) rfl rfl rfl ?_
      refine AO.op (O.move rfl rfl) rfl rfl rfl ?_
      refine AO.nil ?_
      refine AQ.loopKN _ _ _ (by omega) (⟨k + 1, _, by omega, ‹_›, rfl, rfl, by rw [hsc, obsA_snoc, List.length_append]⟩) (by repeat (first | exact envNil | refine envCons rfl ?_)) (by repeat (first | exact envNil | refine envCons rfl ?_)) (by repeat (first | exact subPnil | refine subPcons 1 rfl ?_))
    · skip
      rw [if_neg (by rw [hK]; exact Bool.false_ne_true), List.append_nil] at hsc
      refine AW.skip ?_
      refine AQ.blockN ?_
      refine AQ.thenN ?_
      refine AW.region ?_
      refine AO.op (O.add rfl rfl rfl (by exact wI64 (by omega))) rfl rfl rfl ?_
      refine AO.op (O.move rfl rfl) rfl rfl rfl ?_
      refine AO.nil ?_
      refine AQ.loopKN _ _ _ (by omega) (⟨k + 1, V, by omega, hV, rfl, rfl, by rw [hsc]⟩) (by repeat (first | exact envNil | refine envCons rfl ?_)) (by repeat (first | exact envNil | refine envCons rfl ?_)) (by repeat (first | exact subPnil | refine subPcons 1 rfl ?_))
  · skip
    obtain rfl : k = os.length := by omega
    rw [keepO_all]
    refine AW.exit ?_
    refine AQ.thenX ?_
    refine AQ.loopX ?_
    refine AQ.blockX rfl ?_
    refine AQ.thenN ?_
    refine AW.seq ?_
    refine AW.region ?_
    refine AO.op (O.move rfl rfl) rfl rfl rfl ?_
    refine AO.op (O.assign rfl rfl) rfl rfl rfl ?_
    refine AO.nil ?_
    refine AQ.thenN ?_
    refine AW.ret ?_
    refine AQ.ret1 rfl rfl ⟨_, by repeat (first | exact List.Sublist.slnil | refine List.Sublist.cons_cons _ ?_), List.Perm.refl _⟩ (⟨V, rfl, hV, rfl⟩)
theorem reg1M_fn (x o : Obs) (b : Nat) : Sp Try.prog 29 [aggOb x, .val (.pointer (some ⟨b, 0, none⟩))] [.blk b 28 6 (cellsOb o)] (IsM (.val (.bool (!meetsB x o))) (.blk b 28 6 (cellsOb o))) := by
  refine Sp.enter Try.func29 rfl _ Try.ntmps29 rfl (fun w0 R0 => ?_)
  refine AW.seq ?_
  refine AW.region ?_
  refine AO.opB (O.box rfl rfl rfl rfl rfl) rfl rfl rfl ?_
  intro B1
  refine AO.op (O.assign rfl rfl) rfl rfl rfl ?_
  refine AO.nil ?_
  refine AQ.thenN ?_
  refine AW.seq ?_
  refine AW.region ?_
  refine AO.op (O.loadK rfl rfl (by repeat (exact List.Mem.head _)) (by rfl) (by rfl)) rfl rfl rfl ?_
  refine AO.op (O.loadK rfl rfl (by repeat (first | exact List.Mem.head _ | refine List.Mem.tail _ ?_)) (by rfl) (by rfl)) rfl rfl rfl ?_
  refine AO.op (O.call rfl Try.func24 rfl rfl rfl (meets_fn x o)) rfl rfl rfl ?_
  refine AO.op (O.not rfl rfl (by rfl)) rfl rfl rfl ?_
  refine AO.op (O.assign rfl rfl) rfl rfl rfl ?_
  refine AO.nil ?_
  refine AQ.thenN ?_
  refine AW.ret ?_
  refine AQ.ret1 rfl rfl ⟨_, by repeat (first | exact List.Sublist.slnil | refine List.Sublist.cons_cons _ ?_ | refine List.Sublist.cons _ ?_), List.Perm.refl _⟩ (⟨rfl, rfl⟩)
end Go.Proofs.Ytjgmedmakbjkdaa.By

namespace Go.Proofs.Ytjgmedmakbjkdaa.By
open Go.RowKit L A
set_option linter.unusedVariables false
set_option linter.unusedSimpArgs false
attribute [local irreducible] AW AQ AO
theorem obsA_take (os : List Obs) (n : Nat) : (obsA os).take (n * 6) = obsA (os.take n) := flat_take cellsOb_len os n
theorem getObT {os : List Obs} {k n : Nat} (h : k < n) (hn : n ≤ os.length) {j : Nat} (hj : j = k) : ((obsA (os.take n)).drop (j * 6)).take 6 = [.val (.int .i64 (obat os k).peer), roB (obat os k).tok, roB (obat os k).ctx, roB (obat os k).kid, .val (.int .i64 (obat os k).piv), .val (.string (obat os k).path)] := by
  have e : obat (os.take n) k = obat os k := by simp [List.getElem?_take, h]
  rw [getOb (os := os.take n) (by rw [List.length_take]; omega) hj, e]
theorem OkOb.succ {os : List Obs} {k : Nat} (h : OkOb os k) (h1 : rightB (obat os k) = true) (h2 : ∀ j, j < k → meetsB (obat os k) (obat os j) = false) : OkOb os (k + 1) := fun i hi => by
  rcases Nat.lt_or_ge i k with h3 | h3
  · exact h i h3
  · obtain rfl : i = k := by omega
    exact ⟨h1, h2⟩
set_option maxHeartbeats 4000000 in
theorem nvalid_fn (os : List Obs) (hlen : os.length ≤ 1000000) : Sp Try.prog 8 [roOb os] [] (Is (.val (.bool (validOb os)))) := by
  refine Sp.enter Try.func8 rfl _ Try.ntmps8 rfl (fun w0 R0 => ?_)
  refine AW.seq ?_
  refine AW.region ?_
  refine AO.op (O.assign rfl rfl) rfl rfl rfl ?_
  refine AO.nil ?_
  refine AQ.thenN ?_
  refine AW.seq ?_
  refine AW.seq ?_
  refine AW.region ?_
  refine AO.op (O.move rfl rfl) rfl rfl rfl ?_
  refine AO.op (O.lenR rfl rfl) rfl rfl rfl ?_
  refine AO.op (O.gtr rfl rfl rfl (by rfl)) rfl rfl rfl ?_
  refine AO.nil ?_
  refine AQ.thenN ?_
  refine AW.split rfl (fun h => ?_) (fun h => ?_) <;> (try simp only [decide_eq_true_eq, decide_eq_false_iff_not, beq_iff_eq, beq_eq_false_iff_ne, bne_iff_ne, bne_eq_false_iff_eq, Bool.not_eq_true', Bool.not_eq_false', Bool.not_eq_true, Bool.not_eq_false, ne_eq, Int.not_lt, Int.not_le, Bool.and_eq_true, Bool.or_eq_true, Bool.or_eq_false_iff, Bool.and_eq_false_imp, strOf_toList, Decidable.not_not] at h)
  · skip
    have e : validOb os = false := decide_eq_false fun hh => by have := hh.1; omega
    refine AW.seq ?_
    refine AW.region ?_
    refine AO.op (O.assign rfl rfl) rfl rfl rfl ?_
    refine AO.nil ?_
    refine AQ.thenN ?_
    refine AW.ret ?_
    refine AQ.thenR ?_
    refine AQ.ret1 rfl rfl ⟨_, List.nil_sublist _, .nil⟩ (⟨by rw [e]; rfl, rfl⟩)
  · skip
    refine AW.skip ?_
    refine AQ.thenN ?_
    refine AW.seq ?_
    refine AW.seq ?_
    refine AW.region ?_
    refine AO.op (O.move rfl rfl) rfl rfl rfl ?_
    refine AO.op (O.lenR rfl rfl) rfl rfl rfl ?_
    refine AO.op (O.move rfl rfl) rfl rfl rfl ?_
    refine AO.nil ?_
    refine AQ.thenN ?_
    refine AW.block ?_
    refine AW.loopK [(0, _), (10, _), (11, _)] (fun nn E H => ∃ (k : Nat), (k ≤ os.length) ∧ (OkOb os k) ∧ nn = os.length - k ∧ E = [(12, .val (.int .i64 (k : Int)))] ∧ H = []) _ (⟨0, by omega, fun i hi => by omega, rfl, rfl, rfl⟩) (by repeat (first | exact envNil | refine envCons rfl ?_)) (by repeat (first | exact envNil | refine envCons rfl ?_)) (by repeat (exact subPnil)) ?_
    rintro nn E H ⟨k, hk, ho, rfl, rfl, rfl⟩
    dsimp only [List.cons_append, List.nil_append]
    refine AW.seq ?_
    refine AW.region ?_
    refine AO.op (O.lss rfl rfl rfl (by rfl)) rfl rfl rfl ?_
    refine AO.nil ?_
    refine AQ.thenN ?_
    refine AW.seq ?_
    refine AW.split rfl (fun h2 => ?_) (fun h2 => ?_) <;> (try simp only [decide_eq_true_eq, decide_eq_false_iff_not, beq_iff_eq, beq_eq_false_iff_ne, bne_iff_ne, bne_eq_false_iff_eq, Bool.not_eq_true', Bool.not_eq_false', Bool.not_eq_true, Bool.not_eq_false, ne_eq, Int.not_lt, Int.not_le, Bool.and_eq_true, Bool.or_eq_true, Bool.or_eq_false_iff, Bool.and_eq_false_imp, strOf_toList, Decidable.not_not] at h2)
    · skip
      have hkk : k < os.length := by omega
      refine AW.skip ?_
      refine AQ.thenN ?_
      refine AW.seq ?_
      refine AW.block ?_
      refine AW.seq ?_
      refine AW.region ?_
      refine AO.op (O.move rfl rfl) rfl rfl rfl ?_
      refine AO.op (O.idxR rfl rfl rfl ⟨(by omega), (by omega)⟩) rfl rfl rfl ?_
      refine AO.op (O.loadRK rfl rfl (by exact getOb (by omega) (by omega)) (by rfl)) rfl rfl rfl ?_
      refine AO.opB (O.alloc rfl (by (dsimp only [List.set, List.append, List.cons_append, List.nil_append, roB_cells, roI_cells, roO_cells, splice, ofConst, AV.cells, List.map, List.map_cons, List.map_nil, List.take, List.drop, Nat.zero_add, Nat.add_zero, Nat.reduceAdd, Nat.reduceMul, Nat.zero_mul, Value.cells, List.toList_toArray, zerosA, List.replicate, List.flatten, List.append_nil]; done)) (by rfl)) rfl rfl rfl ?_
      intro B1
      refine AO.op (O.assign rfl rfl) rfl rfl rfl ?_
      (refine AO.store (i := 0) rfl rfl rfl rfl rfl rfl (by rfl) (by rfl) (by rfl) (by (dsimp only [List.set, List.append, List.cons_append, List.nil_append, roB_cells, roI_cells, roO_cells, splice, ofConst, AV.cells, List.map, List.map_cons, List.map_nil, List.take, List.drop, Nat.zero_add, Nat.add_zero, Nat.reduceAdd, Nat.reduceMul, Nat.zero_mul, Value.cells, List.toList_toArray, zerosA, List.replicate, List.flatten, List.append_nil]; done)) (by (dsimp only [List.set, List.append, List.cons_append, List.nil_append, roB_cells, roI_cells, roO_cells, splice, ofConst, AV.cells, List.map, List.map_cons, List.map_nil, List.take, List.drop, Nat.zero_add, Nat.add_zero, Nat.reduceAdd, Nat.reduceMul, Nat.zero_mul, Value.cells, List.toList_toArray, zerosA, List.replicate, List.flatten, List.append_nil]; done)) ?_)
      refine AO.nil ?_
      refine AQ.thenN ?_
      refine AW.seq ?_
      refine AW.seq ?_
      refine AW.region ?_
      refine AO.op (O.loadK rfl rfl (by repeat (exact List.Mem.head _)) (by rfl) (by rfl)) rfl rfl rfl ?_
      refine AO.op (O.call rfl Try.func23 rfl rfl rfl (right_fn (obat os k))) rfl rfl rfl ?_
      refine AO.op (O.not rfl rfl (by rfl)) rfl rfl rfl ?_
      refine AO.nil ?_
      refine AQ.thenN ?_
      refine AW.split rfl (fun h3 => ?_) (fun h3 => ?_) <;> (try simp only [decide_eq_true_eq, decide_eq_false_iff_not, beq_iff_eq, beq_eq_false_iff_ne, bne_iff_ne, bne_eq_false_iff_eq, Bool.not_eq_true', Bool.not_eq_false', Bool.not_eq_true, Bool.not_eq_false, ne_eq, Int.not_lt, Int.not_le, Bool.and_eq_true, Bool.or_eq_true, Bool.or_eq_false_iff, Bool.and_eq_false_imp, strOf_toList, Decidable.not_not] at h3)
      · skip
        have e : validOb os = false := decide_eq_false fun hh => by have := (hh.2 k hkk).1; rw [h3] at this; cases this
        refine AW.seq ?_
        refine AW.region ?_
        refine AO.op (O.assign rfl rfl) rfl rfl rfl ?_
        refine AO.nil ?_
        refine AQ.thenN ?_
        refine AW.ret ?_
        refine AQ.thenR ?_
        refine AQ.blockR ?_
        refine AQ.thenR ?_
        refine AQ.loopR ?_
        refine AQ.blockR ?_
        refine AQ.thenR ?_
        refine AQ.ret1 rfl rfl ⟨_, List.nil_sublist _, .nil⟩ (⟨by rw [e]; rfl, rfl⟩)
      · skip
        refine AW.skip ?_
        refine AQ.thenN ?_
        refine AW.seq ?_
        refine AW.region ?_
        refine AO.op (O.move rfl rfl) rfl rfl rfl ?_
        refine AO.op (O.move rfl rfl) rfl rfl rfl ?_
        refine AO.op (O.sliceTo (k := k) rfl rfl rfl (by rfl) (by omega) (by rfl)) rfl rfl rfl ?_
        refine AO.op (O.lenR rfl rfl) rfl rfl rfl ?_
        refine AO.op (O.move rfl rfl) rfl rfl rfl ?_
        refine AO.nil ?_
        refine AQ.thenN ?_
        refine AW.block ?_
        refine AW.g ?_
        refine G.re 22 (.ro false k (obsA (os.take k))) (by rw [← obsA_take]; rfl) ?_
        refine AW.u ?_
        refine AW.loopK [(0, _), (4, _), (10, _), (11, _), (12, _), (22, _), (23, _)] (fun nn E H => ∃ (j : Nat), (j ≤ k) ∧ (∀ i, i < j → meetsB (obat os k) (obat os i) = false) ∧ nn = k - j ∧ E = [(24, .val (.int .i64 (j : Int)))] ∧ H = [.blk B1 28 6 [.val (.int .i64 (obat os k).peer), roB (obat os k).tok, roB (obat os k).ctx, roB (obat os k).kid, .val (.int .i64 (obat os k).piv), .val (.string (obat os k).path)]]) _ (⟨0, by omega, fun i hi => by omega, rfl, rfl, rfl⟩) (by repeat (first | exact envNil | refine envCons rfl ?_)) (by repeat (first | exact envNil | refine envCons rfl ?_)) (by repeat (first | exact subPnil | refine subPcons 0 rfl ?_)) ?_
        rintro nn E H ⟨j, hj, hm, rfl, rfl, rfl⟩
        dsimp only [List.cons_append, List.nil_append]
        refine AW.seq ?_
        refine AW.region ?_
        refine AO.op (O.lss rfl rfl rfl (by rfl)) rfl rfl rfl ?_
        refine AO.nil ?_
        refine AQ.thenN ?_
        refine AW.seq ?_
        refine AW.split rfl (fun h4 => ?_) (fun h4 => ?_) <;> (try simp only [decide_eq_true_eq, decide_eq_false_iff_not, beq_iff_eq, beq_eq_false_iff_ne, bne_iff_ne, bne_eq_false_iff_eq, Bool.not_eq_true', Bool.not_eq_false', Bool.not_eq_true, Bool.not_eq_false, ne_eq, Int.not_lt, Int.not_le, Bool.and_eq_true, Bool.or_eq_true, Bool.or_eq_false_iff, Bool.and_eq_false_imp, strOf_toList, Decidable.not_not] at h4)
        · skip
          have hjk : j < k := by omega
          have htl : (os.take k).length = k := by rw [List.length_take]; omega
          refine AW.skip ?_
          refine AQ.thenN ?_
          refine AW.seq ?_
          refine AW.block ?_
          refine AW.seq ?_
          refine AW.region ?_
          refine AO.op (O.idxR rfl rfl rfl ⟨(by omega), (by omega)⟩) rfl rfl rfl ?_
          refine AO.op (O.loadRK rfl rfl (by exact getObT (n := k) (by omega) (by omega) (by omega)) (by rfl)) rfl rfl rfl ?_
          refine AO.opB (O.alloc rfl (by (dsimp only [List.set, List.append, List.cons_append, List.nil_append, roB_cells, roI_cells, roO_cells, splice, ofConst, AV.cells, List.map, List.map_cons, List.map_nil, List.take, List.drop, Nat.zero_add, Nat.add_zero, Nat.reduceAdd, Nat.reduceMul, Nat.zero_mul, Value.cells, List.toList_toArray, zerosA, List.replicate, List.flatten, List.append_nil]; done)) (by rfl)) rfl rfl rfl ?_
          intro B2
          (refine AO.store (i := 0) rfl rfl rfl rfl rfl rfl (by rfl) (by rfl) (by rfl) (by (dsimp only [List.set, List.append, List.cons_append, List.nil_append, roB_cells, roI_cells, roO_cells, splice, ofConst, AV.cells, List.map, List.map_cons, List.map_nil, List.take, List.drop, Nat.zero_add, Nat.add_zero, Nat.reduceAdd, Nat.reduceMul, Nat.zero_mul, Value.cells, List.toList_toArray, zerosA, List.replicate, List.flatten, List.append_nil]; done)) (by (dsimp only [List.set, List.append, List.cons_append, List.nil_append, roB_cells, roI_cells, roO_cells, splice, ofConst, AV.cells, List.map, List.map_cons, List.map_nil, List.take, List.drop, Nat.zero_add, Nat.add_zero, Nat.reduceAdd, Nat.reduceMul, Nat.zero_mul, Value.cells, List.toList_toArray, zerosA, List.replicate, List.flatten, List.append_nil]; done)) ?_)
          refine AO.nil ?_
          refine AQ.thenN ?_
          refine AW.seq ?_
          refine AW.region ?_
          refine AO.op (O.loadK rfl rfl (by repeat (first | exact List.Mem.head _ | refine List.Mem.tail _ ?_)) (by rfl) (by rfl)) rfl rfl rfl ?_
          refine AO.op (O.loadK rfl rfl (by repeat (exact List.Mem.head _)) (by rfl) (by rfl)) rfl rfl rfl ?_
          refine AO.op (O.call rfl Try.func24 rfl rfl rfl (meets_fn (obat os k) (obat os j))) rfl rfl rfl ?_
          refine AO.nil ?_
          refine AQ.thenN ?_
          refine AW.split rfl (fun h5 => ?_) (fun h5 => ?_) <;> (try simp only [decide_eq_true_eq, decide_eq_false_iff_not, beq_iff_eq, beq_eq_false_iff_ne, bne_iff_ne, bne_eq_false_iff_eq, Bool.not_eq_true', Bool.not_eq_false', Bool.not_eq_true, Bool.not_eq_false, ne_eq, Int.not_lt, Int.not_le, Bool.and_eq_true, Bool.or_eq_true, Bool.or_eq_false_iff, Bool.and_eq_false_imp, strOf_toList, Decidable.not_not] at h5)
          · skip
            have e : validOb os = false := decide_eq_false fun hh => by have := (hh.2 k hkk).2 j hjk; rw [h5] at this; cases this
            refine AW.seq ?_
            refine AW.region ?_
            refine AO.op (O.assign rfl rfl) rfl rfl rfl ?_
            refine AO.nil ?_
            refine AQ.thenN ?_
            refine AW.ret ?_
            refine AQ.blockR ?_
            refine AQ.thenR ?_
            refine AQ.loopR ?_
            refine AQ.blockR ?_
            refine AQ.blockR ?_
            refine AQ.thenR ?_
            refine AQ.loopR ?_
            refine AQ.blockR ?_
            refine AQ.thenR ?_
            refine AQ.ret1 rfl rfl ⟨_, List.nil_sublist _, .nil⟩ (⟨by rw [e]; rfl, rfl⟩)
          · skip
            refine AW.skip ?_
            refine AQ.blockN ?_
            refine AQ.thenN ?_
            refine AW.region ?_
            refine AO.op (O.add rfl rfl rfl (by exact wI64 (by omega))) rfl rfl rfl ?_
            refine AO.op (O.move rfl rfl) rfl rfl rfl ?_
            refine AO.nil ?_
            refine AQ.loopKN _ _ _ (by omega) (⟨j + 1, by omega, fun i hi => (Nat.lt_or_ge i j).elim (hm i) (fun h9 => by rw [show i = j by omega]; exact h5), rfl, rfl, rfl⟩) (by repeat (first | exact envNil | refine envCons rfl ?_)) (by repeat (first | exact envNil | refine envCons rfl ?_)) (by repeat (first | exact subPnil | refine subPcons 1 rfl ?_))
        · skip
          obtain rfl : j = k := by omega
          refine AW.exit ?_
          refine AQ.thenX ?_
          refine AQ.loopX ?_
          refine AQ.blockX rfl ?_
          refine AQ.blockN ?_
          refine AQ.thenN ?_
          refine AW.region ?_
          refine AO.op (O.add rfl rfl rfl (by exact wI64 (by omega))) rfl rfl rfl ?_
          refine AO.op (O.move rfl rfl) rfl rfl rfl ?_
          refine AO.nil ?_
          refine AQ.loopKN _ _ _ (by omega) (⟨j + 1, by omega, ho.succ h3 hm, rfl, rfl, rfl⟩) (by repeat (first | exact envNil | refine envCons rfl ?_)) (by repeat (first | exact envNil | refine envCons rfl ?_)) (by repeat (exact subPnil))
    · skip
      obtain rfl : k = os.length := by omega
      have e : validOb os = true := decide_eq_true ⟨by omega, ho⟩
      refine AW.exit ?_
      refine AQ.thenX ?_
      refine AQ.loopX ?_
      refine AQ.blockX rfl ?_
      refine AQ.thenN ?_
      refine AW.seq ?_
      refine AW.region ?_
      refine AO.op (O.assign rfl rfl) rfl rfl rfl ?_
      refine AO.nil ?_
      refine AQ.thenN ?_
      refine AW.ret ?_
      refine AQ.ret1 rfl rfl ⟨_, List.nil_sublist _, .nil⟩ (⟨by rw [e]; rfl, rfl⟩)
set_option maxHeartbeats 4000000 in
theorem rnvalid_fn (os : List Obs) (hlen : os.length ≤ 1000000) : Sp Try.prog 9 [roOb os] [] (Is (.val (.bool (validOb os)))) := by
  refine Sp.enter Try.func9 rfl _ Try.ntmps9 rfl (fun w0 R0 => ?_)
  refine AW.seq ?_
  refine AW.region ?_
  refine AO.op (O.assign rfl rfl) rfl rfl rfl ?_
  refine AO.nil ?_
  refine AQ.thenN ?_
  refine AW.seq ?_
  refine AW.seq ?_
  refine AW.region ?_
  refine AO.op (O.move rfl rfl) rfl rfl rfl ?_
  refine AO.op (O.lenR rfl rfl) rfl rfl rfl ?_
  refine AO.op (O.gtr rfl rfl rfl (by rfl)) rfl rfl rfl ?_
  refine AO.nil ?_
  refine AQ.thenN ?_
  refine AW.split rfl (fun h => ?_) (fun h => ?_) <;> (try simp only [decide_eq_true_eq, decide_eq_false_iff_not, beq_iff_eq, beq_eq_false_iff_ne, bne_iff_ne, bne_eq_false_iff_eq, Bool.not_eq_true', Bool.not_eq_false', Bool.not_eq_true, Bool.not_eq_false, ne_eq, Int.not_lt, Int.not_le, Bool.and_eq_true, Bool.or_eq_true, Bool.or_eq_false_iff, Bool.and_eq_false_imp, strOf_toList, Decidable.not_not] at h)
  · skip
    have e : validOb os = false := decide_eq_false fun hh => by have := hh.1; omega
    refine AW.seq ?_
    refine AW.region ?_
    refine AO.op (O.assign rfl rfl) rfl rfl rfl ?_
    refine AO.nil ?_
    refine AQ.thenN ?_
    refine AW.ret ?_
    refine AQ.thenR ?_
    refine AQ.ret1 rfl rfl ⟨_, List.nil_sublist _, .nil⟩ (⟨by rw [e]; rfl, rfl⟩)
  · skip
    refine AW.skip ?_
    refine AQ.thenN ?_
    refine AW.seq ?_
    refine AW.seq ?_
    refine AW.region ?_
    refine AO.op (O.move rfl rfl) rfl rfl rfl ?_
    refine AO.op (O.lenR rfl rfl) rfl rfl rfl ?_
    refine AO.op (O.move rfl rfl) rfl rfl rfl ?_
    refine AO.nil ?_
    refine AQ.thenN ?_
    refine AW.block ?_
    refine AW.loopK [(0, _), (9, _)] (fun nn E H => ∃ (k : Nat), (k ≤ os.length) ∧ (OkOb os k) ∧ nn = os.length - k ∧ E = [(10, .val (.int .i64 (k : Int)))] ∧ H = []) _ (⟨0, by omega, fun i hi => by omega, rfl, rfl, rfl⟩) (by repeat (first | exact envNil | refine envCons rfl ?_)) (by repeat (first | exact envNil | refine envCons rfl ?_)) (by repeat (exact subPnil)) ?_
    rintro nn E H ⟨k, hk, ho, rfl, rfl, rfl⟩
    dsimp only [List.cons_append, List.nil_append]
    refine AW.seq ?_
    refine AW.region ?_
    refine AO.op (O.lss rfl rfl rfl (by rfl)) rfl rfl rfl ?_
    refine AO.nil ?_
    refine AQ.thenN ?_
    refine AW.seq ?_
    refine AW.split rfl (fun h2 => ?_) (fun h2 => ?_) <;> (try simp only [decide_eq_true_eq, decide_eq_false_iff_not, beq_iff_eq, beq_eq_false_iff_ne, bne_iff_ne, bne_eq_false_iff_eq, Bool.not_eq_true', Bool.not_eq_false', Bool.not_eq_true, Bool.not_eq_false, ne_eq, Int.not_lt, Int.not_le, Bool.and_eq_true, Bool.or_eq_true, Bool.or_eq_false_iff, Bool.and_eq_false_imp, strOf_toList, Decidable.not_not] at h2)
    · skip
      have hkk : k < os.length := by omega
      refine AW.skip ?_
      refine AQ.thenN ?_
      refine AW.seq ?_
      refine AW.block ?_
      refine AW.seq ?_
      refine AW.region ?_
      refine AO.op (O.move rfl rfl) rfl rfl rfl ?_
      refine AO.op (O.assign rfl rfl) rfl rfl rfl ?_
      refine AO.nil ?_
      refine AQ.thenN ?_
      refine AW.seq ?_
      refine AW.seq ?_
      refine AW.region ?_
      refine AO.op (O.move rfl rfl) rfl rfl rfl ?_
      refine AO.op (O.move rfl rfl) rfl rfl rfl ?_
      refine AO.op (O.idxR rfl rfl rfl ⟨(by omega), (by omega)⟩) rfl rfl rfl ?_
      refine AO.op (O.loadRK rfl rfl (by exact getOb (k := k) (by omega) (by omega)) (by rfl)) rfl rfl rfl ?_
      refine AO.op (O.call rfl Try.func25 rfl rfl rfl (fine_fn (obat os k))) rfl rfl rfl ?_
      refine AO.op (O.not rfl rfl (by rfl)) rfl rfl rfl ?_
      refine AO.nil ?_
      refine AQ.thenN ?_
      refine AW.split rfl (fun h3 => ?_) (fun h3 => ?_) <;> (try simp only [decide_eq_true_eq, decide_eq_false_iff_not, beq_iff_eq, beq_eq_false_iff_ne, bne_iff_ne, bne_eq_false_iff_eq, Bool.not_eq_true', Bool.not_eq_false', Bool.not_eq_true, Bool.not_eq_false, ne_eq, Int.not_lt, Int.not_le, Bool.and_eq_true, Bool.or_eq_true, Bool.or_eq_false_iff, Bool.and_eq_false_imp, strOf_toList, Decidable.not_not] at h3)
      · skip
        have e : validOb os = false := decide_eq_false fun hh => by have := (hh.2 k hkk).1; rw [h3] at this; cases this
        refine AW.seq ?_
        refine AW.region ?_
        refine AO.op (O.assign rfl rfl) rfl rfl rfl ?_
        refine AO.nil ?_
        refine AQ.thenN ?_
        refine AW.ret ?_
        refine AQ.thenR ?_
        refine AQ.blockR ?_
        refine AQ.thenR ?_
        refine AQ.loopR ?_
        refine AQ.blockR ?_
        refine AQ.thenR ?_
        refine AQ.ret1 rfl rfl ⟨_, List.nil_sublist _, .nil⟩ (⟨by rw [e]; rfl, rfl⟩)
      · skip
        refine AW.skip ?_
        refine AQ.thenN ?_
        refine AW.seq ?_
        refine AW.region ?_
        refine AO.op (O.assign rfl rfl) rfl rfl rfl ?_
        refine AO.nil ?_
        refine AQ.thenN ?_
        refine AW.block ?_
        refine AW.loopK [(0, _), (3, _), (9, _), (10, _)] (fun nn E H => ∃ (j : Nat), (j ≤ k) ∧ (∀ i, i < j → meetsB (obat os k) (obat os i) = false) ∧ nn = k - j ∧ E = [(4, .val (.int .i64 (j : Int)))] ∧ H = []) _ (⟨0, by omega, fun i hi => by omega, rfl, rfl, rfl⟩) (by repeat (first | exact envNil | refine envCons rfl ?_)) (by repeat (first | exact envNil | refine envCons rfl ?_)) (by repeat (exact subPnil)) ?_
        rintro nn E H ⟨j, hj, hm, rfl, rfl, rfl⟩
        dsimp only [List.cons_append, List.nil_append]
        refine AW.seq ?_
        refine AW.seq ?_
        refine AW.region ?_
        refine AO.op (O.move rfl rfl) rfl rfl rfl ?_
        refine AO.op (O.move rfl rfl) rfl rfl rfl ?_
        refine AO.op (O.lss rfl rfl rfl (by rfl)) rfl rfl rfl ?_
        refine AO.nil ?_
        refine AQ.thenN ?_
        refine AW.split rfl (fun h4 => ?_) (fun h4 => ?_) <;> (try simp only [decide_eq_true_eq, decide_eq_false_iff_not, beq_iff_eq, beq_eq_false_iff_ne, bne_iff_ne, bne_eq_false_iff_eq, Bool.not_eq_true', Bool.not_eq_false', Bool.not_eq_true, Bool.not_eq_false, ne_eq, Int.not_lt, Int.not_le, Bool.and_eq_true, Bool.or_eq_true, Bool.or_eq_false_iff, Bool.and_eq_false_imp, strOf_toList, Decidable.not_not] at h4)
        · skip
          have hjk : j < k := by omega
          have hro := getOb (os := os) (k := k) hkk (j := (k : Int).toNat) (by omega)
          have hrj := getOb (os := os) (k := j) (by omega) (j := (j : Int).toNat) (by omega)
          refine AW.skip ?_
          refine AQ.thenN ?_
          refine AW.seq ?_
          refine AW.block ?_
          refine AW.seq ?_
          refine AW.regionD 9 (by kernel_rfl) (by kernel_rfl) ?_
          simp only [List.take_succ_cons, List.take_zero, List.drop_succ_cons, List.drop_zero]
          refine FA.op (O.move rfl rfl) rfl rfl rfl rfl ?_
          refine FA.op (O.move rfl rfl) rfl rfl rfl rfl ?_
          refine FA.op (O.idxR rfl rfl rfl ⟨(by omega), (by omega)⟩) rfl rfl rfl rfl ?_
          refine FA.op (O.loadRK rfl rfl (by exact hro) (by rfl)) rfl rfl rfl rfl ?_
          refine FA.op (O.move rfl rfl) rfl rfl rfl rfl ?_
          refine FA.op (O.move rfl rfl) rfl rfl rfl rfl ?_
          refine FA.op (O.idxR rfl rfl rfl ⟨(by omega), (by omega)⟩) rfl rfl rfl rfl ?_
          refine FA.op (O.loadRK rfl rfl (by exact hrj) (by rfl)) rfl rfl rfl rfl ?_
          refine FA.op (O.call rfl Try.func26 rfl rfl rfl (clash_fn (obat os k) (obat os j))) rfl rfl rfl rfl ?_
          refine FA.nil ?_
          simp only [chosen, List.nil_append, List.cons_append, List.append_nil]
          refine AO.nil ?_
          refine AQ.thenN ?_
          refine AW.split rfl (fun h5 => ?_) (fun h5 => ?_) <;> (try simp only [decide_eq_true_eq, decide_eq_false_iff_not, beq_iff_eq, beq_eq_false_iff_ne, bne_iff_ne, bne_eq_false_iff_eq, Bool.not_eq_true', Bool.not_eq_false', Bool.not_eq_true, Bool.not_eq_false, ne_eq, Int.not_lt, Int.not_le, Bool.and_eq_true, Bool.or_eq_true, Bool.or_eq_false_iff, Bool.and_eq_false_imp, strOf_toList, Decidable.not_not] at h5)
          · skip
            have e : validOb os = false := decide_eq_false fun hh => by have := (hh.2 k hkk).2 j hjk; rw [h5] at this; cases this
            refine AW.seq ?_
            refine AW.region ?_
            refine AO.op (O.assign rfl rfl) rfl rfl rfl ?_
            refine AO.nil ?_
            refine AQ.thenN ?_
            refine AW.ret ?_
            refine AQ.blockR ?_
            refine AQ.thenR ?_
            refine AQ.loopR ?_
            refine AQ.blockR ?_
            refine AQ.blockR ?_
            refine AQ.thenR ?_
            refine AQ.loopR ?_
            refine AQ.blockR ?_
            refine AQ.thenR ?_
            refine AQ.ret1 rfl rfl ⟨_, List.nil_sublist _, .nil⟩ (⟨by rw [e]; rfl, rfl⟩)
          · skip
            refine AW.skip ?_
            refine AQ.blockN ?_
            refine AQ.thenN ?_
            refine AW.region ?_
            refine AO.op (O.move rfl rfl) rfl rfl rfl ?_
            refine AO.op (O.add rfl rfl rfl (by exact wI64 (by omega))) rfl rfl rfl ?_
            refine AO.op (O.assign rfl rfl) rfl rfl rfl ?_
            refine AO.nil ?_
            refine AQ.loopKN _ _ _ (by omega) (⟨j + 1, by omega, fun i hi => (Nat.lt_or_ge i j).elim (hm i) (fun h9 => by rw [show i = j by omega]; exact h5), rfl, rfl, rfl⟩) (by repeat (first | exact envNil | refine envCons rfl ?_)) (by repeat (first | exact envNil | refine envCons rfl ?_)) (by repeat (exact subPnil))
        · skip
          obtain rfl : j = k := by omega
          refine AW.exit ?_
          refine AQ.thenX ?_
          refine AQ.loopX ?_
          refine AQ.blockX rfl ?_
          refine AQ.blockN ?_
          refine AQ.thenN ?_
          refine AW.region ?_
          refine AO.op (O.add rfl rfl rfl (by exact wI64 (by omega))) rfl rfl rfl ?_
          refine AO.op (O.move rfl rfl) rfl rfl rfl ?_
          refine AO.nil ?_
          refine AQ.loopKN _ _ _ (by omega) (⟨j + 1, by omega, ho.succ h3 hm, rfl, rfl, rfl⟩) (by repeat (first | exact envNil | refine envCons rfl ?_)) (by repeat (first | exact envNil | refine envCons rfl ?_)) (by repeat (exact subPnil))
    · skip
      obtain rfl : k = os.length := by omega
      have e : validOb os = true := decide_eq_true ⟨by omega, ho⟩
      refine AW.exit ?_
      refine AQ.thenX ?_
      refine AQ.loopX ?_
      refine AQ.blockX rfl ?_
      refine AQ.thenN ?_
      refine AW.seq ?_
      refine AW.region ?_
      refine AO.op (O.assign rfl rfl) rfl rfl rfl ?_
      refine AO.nil ?_
      refine AQ.thenN ?_
      refine AW.ret ?_
      refine AQ.ret1 rfl rfl ⟨_, List.nil_sublist _, .nil⟩ (⟨by rw [e]; rfl, rfl⟩)
end Go.Proofs.Ytjgmedmakbjkdaa.By

namespace Go.Proofs.Ytjgmedmakbjkdaa.By
open Go.RowKit L A
set_option linter.unusedVariables false
set_option linter.unusedSimpArgs false
attribute [local irreducible] AW AQ AO
set_option maxHeartbeats 4000000 in
theorem register_fn (os : List Obs) (o : Obs) (hsh : ShortOb os) (ho1 : o.tok.length ≤ 4294967296) (ho2 : o.ctx.length ≤ 4294967296) (ho3 : o.kid.length ≤ 4294967296) : Sp Try.prog 11 [roOb os, aggOb o] [] (Is (resOb (regR os o))) := by
  have hlen := hsh.1
  have hfl := List.length_filter_le (fun x => !meetsB x o) os
  refine Sp.enter Try.func11 rfl _ Try.ntmps11 rfl (fun w0 R0 => ?_)
  refine AW.seq ?_
  refine AW.region ?_
  refine AO.opB (O.box rfl rfl rfl rfl rfl) rfl rfl rfl ?_
  intro B1
  refine AO.op (O.assign rfl rfl) rfl rfl rfl ?_
  refine AO.op (O.assign rfl rfl) rfl rfl rfl ?_
  refine AO.nil ?_
  refine AQ.thenN ?_
  refine AW.seq ?_
  refine AW.seq ?_
  refine AW.region ?_
  refine AO.op (O.move rfl rfl) rfl rfl rfl ?_
  refine AO.op (O.call rfl Try.func8 rfl rfl rfl (nvalid_fn os hlen)) rfl rfl rfl ?_
  refine AO.op (O.not rfl rfl (by rfl)) rfl rfl rfl ?_
  refine AO.op (O.move rfl rfl) rfl rfl rfl ?_
  refine AO.opG rfl rfl rfl (fun hp => O.loadK rfl rfl (by repeat (exact List.Mem.head _)) (by rfl) (by rfl)) ?_
  refine AO.opG rfl rfl rfl (fun hp => OpW.force 11 rfl (by exact hp) (O.call rfl Try.func23 rfl rfl rfl (right_fn o))) ?_
  refine AO.opG rfl rfl rfl (fun hp => OpW.force 12 rfl (by exact hp) (O.not rfl rfl (by rfl))) ?_
  refine AO.op (O.pickOr rfl rfl rfl rfl (fun h => by exact congrArg (fun b => !b) h)) rfl rfl rfl ?_
  refine AO.nil ?_
  refine AQ.thenN ?_
  refine AW.split rfl (fun h => ?_) (fun h => ?_) <;> (try simp only [decide_eq_true_eq, decide_eq_false_iff_not, beq_iff_eq, beq_eq_false_iff_ne, bne_iff_ne, bne_eq_false_iff_eq, Bool.not_eq_true', Bool.not_eq_false', Bool.not_eq_true, Bool.not_eq_false, ne_eq, Int.not_lt, Int.not_le, Bool.and_eq_true, Bool.or_eq_true, Bool.or_eq_false_iff, Bool.and_eq_false_imp, strOf_toList, Decidable.not_not] at h)
  · skip
    have e : regR os o = ([], 1) := if_neg (by rintro ⟨k1, k2⟩; rw [k1, k2] at h; simp at h)
    refine AW.seq ?_
    refine AW.region ?_
    refine AO.op (O.assign rfl rfl) rfl rfl rfl ?_
    refine AO.op (O.assign rfl rfl) rfl rfl rfl ?_
    refine AO.nil ?_
    refine AQ.thenN ?_
    refine AW.ret ?_
    refine AQ.thenR ?_
    refine FnQ.coe (AQ.ret2 rfl rfl rfl ⟨_, List.nil_sublist _, .nil⟩ ⟨rfl, rfl⟩) (Coe.tup (by (repeat (first | exact CoeL.nil | refine CoeL.cons Coe.rfl ?_ | refine CoeL.cons Coe.nil ?_)); done)) (retOb e)
  · skip
    have hc : validOb os = true ∧ rightB o = true := by simpa using h
    refine AW.skip ?_
    refine AQ.thenN ?_
    refine AW.seq ?_
    refine AW.region ?_
    refine AO.op (O.move rfl rfl) rfl rfl rfl ?_
    refine AO.op (O.fn rfl rfl) rfl rfl rfl ?_
    refine AO.callMG 0 rfl rfl Try.func28 rfl rfl rfl rfl rfl rfl (filteredM_fn os hsh (fun x => !meetsB x o) 29 _ _ Try.func29 rfl rfl (.blk B1 28 6 (cellsOb o)) (fun x => reg1M_fn x o B1)) ?_
    rintro _ _ ⟨V2, rfl, hV2, rfl⟩
    dsimp only [List.cons_append, List.nil_append, List.eraseIdx]
    refine AO.op (O.assign rfl rfl) rfl rfl rfl ?_
    refine AO.nil ?_
    refine AQ.thenN ?_
    refine AW.seq ?_
    refine AW.seq ?_
    refine AW.region ?_
    refine AO.op (O.move rfl rfl) rfl rfl rfl ?_
    refine AO.op (O.lenRow rfl rfl (by repeat (exact List.Mem.head _))) rfl rfl rfl ?_
    refine AO.op (O.geq rfl rfl rfl (by rfl)) rfl rfl rfl ?_
    refine AO.nil ?_
    refine AQ.thenN ?_
    refine AW.split rfl (fun h2 => ?_) (fun h2 => ?_) <;> (try simp only [decide_eq_true_eq, decide_eq_false_iff_not, beq_iff_eq, beq_eq_false_iff_ne, bne_iff_ne, bne_eq_false_iff_eq, Bool.not_eq_true', Bool.not_eq_false', Bool.not_eq_true, Bool.not_eq_false, ne_eq, Int.not_lt, Int.not_le, Bool.and_eq_true, Bool.or_eq_true, Bool.or_eq_false_iff, Bool.and_eq_false_imp, strOf_toList, Decidable.not_not] at h2)
    · skip
      have e : regR os o = ([], 16) := by rw [regR, if_pos hc, if_pos (by omega)]
      refine AW.seq ?_
      refine AW.region ?_
      refine AO.op (O.assign rfl rfl) rfl rfl rfl ?_
      refine AO.op (O.assign rfl rfl) rfl rfl rfl ?_
      refine AO.nil ?_
      refine AQ.thenN ?_
      refine AW.ret ?_
      refine AQ.thenR ?_
      refine FnQ.coe (AQ.ret2 rfl rfl rfl ⟨_, List.nil_sublist _, .nil⟩ ⟨rfl, rfl⟩) (Coe.tup (by (repeat (first | exact CoeL.nil | refine CoeL.cons Coe.rfl ?_ | refine CoeL.cons Coe.nil ?_)); done)) (retOb e)
    · skip
      have e : regR os o = ((os.filter fun x => !meetsB x o) ++ [o], 0) := by rw [regR, if_pos hc, if_neg (by omega)]
      refine AW.skip ?_
      refine AQ.thenN ?_
      refine AW.seq ?_
      refine AW.regionD 7 (by kernel_rfl) (by kernel_rfl) ?_
      simp only [List.take_succ_cons, List.take_zero, List.drop_succ_cons, List.drop_zero]
      refine FA.op (O.fieldAddr rfl rfl) rfl rfl rfl rfl ?_
      refine FA.op (O.load rfl rfl (by repeat (first | exact List.Mem.head _ | refine List.Mem.tail _ ?_)) (by rfl)) rfl rfl rfl rfl ?_
      refine FA.op (O.call rfl Try.func30 rfl rfl rfl (copiedn_fn _ (by assumption))) rfl rfl rfl rfl ?_
      refine FA.op (O.fieldAddr rfl rfl) rfl rfl rfl rfl ?_
      refine FA.op (O.loadK rfl rfl (by repeat (first | exact List.Mem.head _ | refine List.Mem.tail _ ?_)) (by rfl) (by rfl)) rfl rfl rfl rfl ?_
      refine FA.op (O.call rfl Try.func31 rfl rfl rfl (bind_fn _ _ _ ho2 ho3)) rfl rfl rfl rfl ?_
      refine FA.op (O.fieldAddr rfl rfl) rfl rfl rfl rfl ?_
      refine FA.nil ?_
      simp only [chosen, List.nil_append, List.cons_append, List.append_nil]
      (refine AO.store (i := 1) rfl rfl rfl rfl rfl rfl (by rfl) (by rfl) (by rfl) (by (dsimp only [List.set, List.append, List.cons_append, List.nil_append, roB_cells, roI_cells, roO_cells, splice, ofConst, AV.cells, List.map, List.map_cons, List.map_nil, List.take, List.drop, Nat.zero_add, Nat.add_zero, Nat.reduceAdd, Nat.reduceMul, Nat.zero_mul, Value.cells, List.toList_toArray, zerosA, List.replicate, List.flatten, List.append_nil]; done)) (by (dsimp only [List.set, List.append, List.cons_append, List.nil_append, roB_cells, roI_cells, roO_cells, splice, ofConst, AV.cells, List.map, List.map_cons, List.map_nil, List.take, List.drop, Nat.zero_add, Nat.add_zero, Nat.reduceAdd, Nat.reduceMul, Nat.zero_mul, Value.cells, List.toList_toArray, zerosA, List.replicate, List.flatten, List.append_nil]; done)) ?_)
      refine AO.op (O.fieldAddr rfl rfl) rfl rfl rfl ?_
      (refine AO.store (i := 1) rfl rfl rfl rfl rfl rfl (by rfl) (by rfl) (by rfl) (by (dsimp only [List.set, List.append, List.cons_append, List.nil_append, roB_cells, roI_cells, roO_cells, splice, ofConst, AV.cells, List.map, List.map_cons, List.map_nil, List.take, List.drop, Nat.zero_add, Nat.add_zero, Nat.reduceAdd, Nat.reduceMul, Nat.zero_mul, Value.cells, List.toList_toArray, zerosA, List.replicate, List.flatten, List.append_nil]; done)) (by (dsimp only [List.set, List.append, List.cons_append, List.nil_append, roB_cells, roI_cells, roO_cells, splice, ofConst, AV.cells, List.map, List.map_cons, List.map_nil, List.take, List.drop, Nat.zero_add, Nat.add_zero, Nat.reduceAdd, Nat.reduceMul, Nat.zero_mul, Value.cells, List.toList_toArray, zerosA, List.replicate, List.flatten, List.append_nil]; done)) ?_)
      refine AO.nil ?_
      refine AQ.thenN ?_
      refine AW.seq ?_
      refine AW.region ?_
      refine AO.op (O.move rfl rfl) rfl rfl rfl ?_
      refine AO.op (O.loadK rfl rfl (by repeat (first | exact List.Mem.head _ | refine List.Mem.tail _ ?_)) (by rfl) (by rfl)) rfl rfl rfl ?_
      refine AO.opB (O.buildSlice rfl rfl rfl (by rfl) (by rfl) (by rfl) (by rfl)) rfl rfl rfl ?_
      intro B3
      refine AO.g ?_
      (refine G.freezeSl 0 31 rfl rfl ⟨Nat.le_refl _, by unfold maxLen; omega⟩ ?_)
      refine G.unfull 31 rfl ?_
      refine AO.u ?_
      dsimp only [List.eraseIdx]
      (refine AO.append' (i := 0) rfl rfl rfl rfl (by rfl) (by rfl) rfl rfl rfl (by exact SrcA.ro TyD.ax (by rfl) (Nat.le_of_ble_eq_true rfl)) (by rfl) (by (unfold maxLen; omega)) (by omega) (by (dsimp only [List.set, List.append, List.cons_append, List.nil_append, roB_cells, roI_cells, roO_cells, splice, ofConst, AV.cells, List.map, List.map_cons, List.map_nil, List.take, List.drop, Nat.zero_add, Nat.add_zero, Nat.reduceAdd, Nat.reduceMul, Nat.zero_mul, Value.cells, List.toList_toArray, zerosA, List.replicate, List.flatten, List.append_nil]; done)) (fun _ => by (dsimp only [List.set]; done)) ?_)
      intro V4 hV4
      refine AO.op (O.assign rfl rfl) rfl rfl rfl ?_
      refine AO.op (O.assign rfl rfl) rfl rfl rfl ?_
      refine AO.nil ?_
      refine AQ.thenN ?_
      refine AW.ret ?_
      refine AQ.g ?_
      refine G.freezeRow 0 rfl [4] (by repeat (first | exact frNil | refine frCons rfl ?_)) ?_
      refine AQ.u ?_
      try dsimp only [List.map, List.eraseIdx, List.cons_append, List.nil_append]
      refine AQ.g ?_
      refine G.re 4 (roOb ((os.filter fun x => !meetsB x o) ++ [o])) (congrArg some (roOb_of (by rw [List.length_append]; rfl) (by rw [obsA_app]; rfl))) ?_
      refine AQ.u ?_
      refine FnQ.coe (AQ.ret2 rfl rfl rfl ⟨_, List.nil_sublist _, .nil⟩ ⟨rfl, rfl⟩) (Coe.tup (by (repeat (first | exact CoeL.nil | refine CoeL.cons Coe.rfl ?_)); done)) (retOb e)
set_option maxHeartbeats 4000000 in
theorem rregister_fn (os : List Obs) (o : Obs) (hsh : ShortOb os) : Sp Try.prog 12 [roOb os, aggOb o] [] (Is (resOb (regR os o))) := by
  have hlen := hsh.1
  have hfl := List.length_filter_le (fun x => !meetsB x o) os
  refine Sp.enter Try.func12 rfl _ Try.ntmps12 rfl (fun w0 R0 => ?_)
  refine AW.seq ?_
  refine AW.region ?_
  refine AO.opB (O.box rfl rfl rfl rfl rfl) rfl rfl rfl ?_
  intro B1
  refine AO.op (O.assign rfl rfl) rfl rfl rfl ?_
  refine AO.op (O.assign rfl rfl) rfl rfl rfl ?_
  refine AO.nil ?_
  refine AQ.thenN ?_
  refine AW.seq ?_
  refine AW.seq ?_
  refine AW.region ?_
  refine AO.op (O.move rfl rfl) rfl rfl rfl ?_
  refine AO.op (O.call rfl Try.func9 rfl rfl rfl (rnvalid_fn os hlen)) rfl rfl rfl ?_
  refine AO.op (O.not rfl rfl (by rfl)) rfl rfl rfl ?_
  refine AO.op (O.move rfl rfl) rfl rfl rfl ?_
  refine AO.opG rfl rfl rfl (fun hp => O.loadK rfl rfl (by repeat (exact List.Mem.head _)) (by rfl) (by rfl)) ?_
  refine AO.opG rfl rfl rfl (fun hp => OpW.force 13 rfl (by exact hp) (O.call rfl Try.func25 rfl rfl rfl (fine_fn o))) ?_
  refine AO.opG rfl rfl rfl (fun hp => OpW.force 14 rfl (by exact hp) (O.not rfl rfl (by rfl))) ?_
  refine AO.op (O.pickOr rfl rfl rfl rfl (fun h => by exact congrArg (fun b => !b) h)) rfl rfl rfl ?_
  refine AO.nil ?_
  refine AQ.thenN ?_
  refine AW.split rfl (fun h => ?_) (fun h => ?_) <;> (try simp only [decide_eq_true_eq, decide_eq_false_iff_not, beq_iff_eq, beq_eq_false_iff_ne, bne_iff_ne, bne_eq_false_iff_eq, Bool.not_eq_true', Bool.not_eq_false', Bool.not_eq_true, Bool.not_eq_false, ne_eq, Int.not_lt, Int.not_le, Bool.and_eq_true, Bool.or_eq_true, Bool.or_eq_false_iff, Bool.and_eq_false_imp, strOf_toList, Decidable.not_not] at h)
  · skip
    have e : regR os o = ([], 1) := if_neg (by rintro ⟨k1, k2⟩; rw [k1, k2] at h; simp at h)
    refine AW.seq ?_
    refine AW.region ?_
    refine AO.op (O.assign rfl rfl) rfl rfl rfl ?_
    refine AO.op (O.assign rfl rfl) rfl rfl rfl ?_
    refine AO.nil ?_
    refine AQ.thenN ?_
    refine AW.ret ?_
    refine AQ.thenR ?_
    refine FnQ.coe (AQ.ret2 rfl rfl rfl ⟨_, List.nil_sublist _, .nil⟩ ⟨rfl, rfl⟩) (Coe.tup (by (repeat (first | exact CoeL.nil | refine CoeL.cons Coe.rfl ?_ | refine CoeL.cons Coe.nil ?_)); done)) (retOb e)
  · skip
    have hc : validOb os = true ∧ rightB o = true := by simpa using h
    have hl16 : os.length ≤ 16 := (of_decide_eq_true hc.1).1
    refine AW.skip ?_
    refine AQ.thenN ?_
    refine AW.seq ?_
    refine AW.region ?_
    refine AO.op (O.assign rfl rfl) rfl rfl rfl ?_
    refine AO.nil ?_
    refine AQ.thenN ?_
    refine AW.seq ?_
    refine AW.seq ?_
    refine AW.region ?_
    refine AO.op (O.move rfl rfl) rfl rfl rfl ?_
    refine AO.op (O.lenR rfl rfl) rfl rfl rfl ?_
    refine AO.op (O.move rfl rfl) rfl rfl rfl ?_
    refine AO.nil ?_
    refine AQ.thenN ?_
    refine AW.block ?_
    refine AW.g ?_
    refine G.nilRow 28 6 ?_
    refine AW.u ?_
    refine AW.loopK [(3, _), (17, _), (18, _)] (fun nn E H => ∃ (k : Nat) (V : Value), (k ≤ os.length) ∧ (V.oneCell' = true) ∧ nn = os.length - k ∧ E = [(6, .val V), (19, .val (.int .i64 (k : Int)))] ∧ H = [.row V 28 6 (keepO (fun x => !meetsB x o) os k).length (obsA (keepO (fun x => !meetsB x o) os k)), .blk B1 28 6 [.val (.int .i64 o.peer), roB o.tok, roB o.ctx, roB o.kid, .val (.int .i64 o.piv), .val (.string o.path)]]) _ (⟨0, .slice none 0 0, by omega, rfl, rfl, rfl, rfl⟩) (by repeat (first | exact envNil | refine envCons rfl ?_)) (by repeat (first | exact envNil | refine envCons rfl ?_)) (by repeat (first | exact subPnil | refine subPcons 0 rfl ?_)) ?_
    rintro nn E H ⟨k, V, hk1, hV, rfl, rfl, rfl⟩
    dsimp only [List.cons_append, List.nil_append]
    refine AW.seq ?_
    refine AW.region ?_
    refine AO.op (O.lss rfl rfl rfl (by rfl)) rfl rfl rfl ?_
    refine AO.nil ?_
    refine AQ.thenN ?_
    refine AW.seq ?_
    refine AW.split rfl (fun hlt => ?_) (fun hlt => ?_) <;> (try simp only [decide_eq_true_eq, decide_eq_false_iff_not, beq_iff_eq, beq_eq_false_iff_ne, bne_iff_ne, bne_eq_false_iff_eq, Bool.not_eq_true', Bool.not_eq_false', Bool.not_eq_true, Bool.not_eq_false, ne_eq, Int.not_lt, Int.not_le, Bool.and_eq_true, Bool.or_eq_true, Bool.or_eq_false_iff, Bool.and_eq_false_imp, strOf_toList, Decidable.not_not] at hlt)
    · skip
      have hkk : k < os.length := by omega
      have hle := keepO_le (fun x => !meetsB x o) os k
      have hsc := keepO_succ (K := fun x => !meetsB x o) hkk
      refine AW.skip ?_
      refine AQ.thenN ?_
      refine AW.seq ?_
      refine AW.block ?_
      refine AW.seq ?_
      refine AW.region ?_
      refine AO.op (O.idxR rfl rfl rfl ⟨(by omega), (by omega)⟩) rfl rfl rfl ?_
      refine AO.op (O.loadRK rfl rfl (by exact getOb (by omega) (by omega)) (by rfl)) rfl rfl rfl ?_
      refine AO.opB (O.alloc rfl (by (dsimp only [List.set, List.append, List.cons_append, List.nil_append, roB_cells, roI_cells, roO_cells, splice, ofConst, AV.cells, List.map, List.map_cons, List.map_nil, List.take, List.drop, Nat.zero_add, Nat.add_zero, Nat.reduceAdd, Nat.reduceMul, Nat.zero_mul, Value.cells, List.toList_toArray, zerosA, List.replicate, List.flatten, List.append_nil]; done)) (by rfl)) rfl rfl rfl ?_
      intro B2
      (refine AO.store (i := 0) rfl rfl rfl rfl rfl rfl (by rfl) (by rfl) (by rfl) (by (dsimp only [List.set, List.append, List.cons_append, List.nil_append, roB_cells, roI_cells, roO_cells, splice, ofConst, AV.cells, List.map, List.map_cons, List.map_nil, List.take, List.drop, Nat.zero_add, Nat.add_zero, Nat.reduceAdd, Nat.reduceMul, Nat.zero_mul, Value.cells, List.toList_toArray, zerosA, List.replicate, List.flatten, List.append_nil]; done)) (by (dsimp only [List.set, List.append, List.cons_append, List.nil_append, roB_cells, roI_cells, roO_cells, splice, ofConst, AV.cells, List.map, List.map_cons, List.map_nil, List.take, List.drop, Nat.zero_add, Nat.add_zero, Nat.reduceAdd, Nat.reduceMul, Nat.zero_mul, Value.cells, List.toList_toArray, zerosA, List.replicate, List.flatten, List.append_nil]; done)) ?_)
      refine AO.nil ?_
      refine AQ.thenN ?_
      refine AW.seq ?_
      refine AW.region ?_
      refine AO.op (O.loadK rfl rfl (by repeat (exact List.Mem.head _)) (by rfl) (by rfl)) rfl rfl rfl ?_
      refine AO.op (O.loadK rfl rfl (by repeat (first | exact List.Mem.head _ | refine List.Mem.tail _ ?_)) (by rfl) (by rfl)) rfl rfl rfl ?_
      refine AO.op (O.call rfl Try.func26 rfl rfl rfl (clash_fn (obat os k) o)) rfl rfl rfl ?_
      refine AO.op (O.not rfl rfl (by rfl)) rfl rfl rfl ?_
      refine AO.nil ?_
      refine AQ.thenN ?_
      refine AW.split rfl (fun hK => ?_) (fun hK => ?_) <;> (try simp only [decide_eq_true_eq, decide_eq_false_iff_not, beq_iff_eq, beq_eq_false_iff_ne, bne_iff_ne, bne_eq_false_iff_eq, Bool.not_eq_true', Bool.not_eq_false', Bool.not_eq_true, Bool.not_eq_false, ne_eq, Int.not_lt, Int.not_le, Bool.and_eq_true, Bool.or_eq_true, Bool.or_eq_false_iff, Bool.and_eq_false_imp, strOf_toList, Decidable.not_not] at hK)
      · skip
        rw [if_pos (by rw [hK]; rfl)] at hsc
        refine AW.region ?_
        refine AO.op (O.move rfl rfl) rfl rfl rfl ?_
        refine AO.op (O.loadK rfl rfl (by repeat (exact List.Mem.head _)) (by rfl) (by rfl)) rfl rfl rfl ?_
        refine AO.opB (O.buildSlice rfl rfl rfl (by rfl) (by rfl) (by rfl) (by rfl)) rfl rfl rfl ?_
        intro B3
        refine AO.g ?_
        (refine G.freezeSl 0 29 rfl rfl ⟨Nat.le_refl _, by unfold maxLen; omega⟩ ?_)
        refine G.unfull 29 rfl ?_
        refine AO.u ?_
        dsimp only [List.eraseIdx]
        (refine AO.append' (i := 1) rfl rfl rfl rfl (by rfl) (by rfl) rfl rfl rfl (by exact SrcA.ro TyD.ax (by rfl) (Nat.le_of_ble_eq_true rfl)) (by rfl) (by (unfold maxLen; omega)) (by omega) (by (dsimp only [List.set, List.append, List.cons_append, List.nil_append, roB_cells, roI_cells, roO_cells, splice, ofConst, AV.cells, List.map, List.map_cons, List.map_nil, List.take, List.drop, Nat.zero_add, Nat.add_zero, Nat.reduceAdd, Nat.reduceMul, Nat.zero_mul, Value.cells, List.toList_toArray, zerosA, List.replicate, List.flatten, List.append_nil]; done)) (fun _ => by (dsimp only [List.set]; done)) ?_)
        intro V4 hV4
        refine AO.op (O.assign rfl rfl) rfl rfl rfl ?_
        refine AO.nil ?_
        refine AQ.blockN ?_
        refine AQ.thenN ?_
        refine AW.region ?_
        refine AO.op (O.add rfl rfl rfl (by exact wI64 (by omega))) rfl rfl rfl ?_
        refine AO.op (O.move rfl rfl) rfl rfl rfl ?_
        refine AO.nil ?_
        refine AQ.loopKN _ _ _ (by omega) (⟨k + 1, _, by omega, ‹_›, rfl, rfl, by rw [hsc, obsA_snoc, List.length_append]⟩) (by repeat (first | exact envNil | refine envCons rfl ?_)) (by repeat (first | exact envNil | refine envCons rfl ?_)) (by repeat (first | exact subPnil | refine subPcons 1 rfl ?_))
      · skip
        rw [if_neg (by rw [hK]; exact Bool.false_ne_true), List.append_nil] at hsc
        refine AW.skip ?_
        refine AQ.blockN ?_
        refine AQ.thenN ?_
        refine AW.region ?_
        refine AO.op (O.add rfl rfl rfl (by exact wI64 (by omega))) rfl rfl rfl ?_
        refine AO.op (O.move rfl rfl) rfl rfl rfl ?_
        refine AO.nil ?_
        refine AQ.loopKN _ _ _ (by omega) (⟨k + 1, V, by omega, hV, rfl, rfl, by rw [hsc]⟩) (by repeat (first | exact envNil | refine envCons rfl ?_)) (by repeat (first | exact envNil | refine envCons rfl ?_)) (by repeat (first | exact subPnil | refine subPcons 1 rfl ?_))
    · skip
      obtain rfl : k = os.length := by omega
      rw [keepO_all]
      refine AW.exit ?_
      refine AQ.thenX ?_
      refine AQ.loopX ?_
      refine AQ.blockX rfl ?_
      refine AQ.thenN ?_
      refine AW.seq ?_
      refine AW.seq ?_
      refine AW.region ?_
      refine AO.op (O.move rfl rfl) rfl rfl rfl ?_
      refine AO.op (O.lenRow rfl rfl (by repeat (exact List.Mem.head _))) rfl rfl rfl ?_
      refine AO.op (O.eql rfl rfl rfl (by rfl)) rfl rfl rfl ?_
      refine AO.nil ?_
      refine AQ.thenN ?_
      refine AW.split rfl (fun h2 => ?_) (fun h2 => ?_) <;> (try simp only [decide_eq_true_eq, decide_eq_false_iff_not, beq_iff_eq, beq_eq_false_iff_ne, bne_iff_ne, bne_eq_false_iff_eq, Bool.not_eq_true', Bool.not_eq_false', Bool.not_eq_true, Bool.not_eq_false, ne_eq, Int.not_lt, Int.not_le, Bool.and_eq_true, Bool.or_eq_true, Bool.or_eq_false_iff, Bool.and_eq_false_imp, strOf_toList, Decidable.not_not] at h2)
      · skip
        have e : regR os o = ([], 16) := by rw [regR, if_pos hc, if_pos (by omega)]
        refine AW.seq ?_
        refine AW.region ?_
        refine AO.op (O.assign rfl rfl) rfl rfl rfl ?_
        refine AO.op (O.assign rfl rfl) rfl rfl rfl ?_
        refine AO.nil ?_
        refine AQ.thenN ?_
        refine AW.ret ?_
        refine AQ.thenR ?_
        refine FnQ.coe (AQ.ret2 rfl rfl rfl ⟨_, List.nil_sublist _, .nil⟩ ⟨rfl, rfl⟩) (Coe.tup (by (repeat (first | exact CoeL.nil | refine CoeL.cons Coe.rfl ?_ | refine CoeL.cons Coe.nil ?_)); done)) (retOb e)
      · skip
        have e : regR os o = ((os.filter fun x => !meetsB x o) ++ [o], 0) := by rw [regR, if_pos hc, if_neg (by omega)]
        refine AW.skip ?_
        refine AQ.thenN ?_
        refine AW.seq ?_
        refine AW.region ?_
        refine AO.op (O.move rfl rfl) rfl rfl rfl ?_
        refine AO.op (O.loadK rfl rfl (by repeat (first | exact List.Mem.head _ | refine List.Mem.tail _ ?_)) (by rfl) (by rfl)) rfl rfl rfl ?_
        refine AO.opB (O.buildSlice rfl rfl rfl (by rfl) (by rfl) (by rfl) (by rfl)) rfl rfl rfl ?_
        intro B5
        refine AO.g ?_
        (refine G.freezeSl 0 37 rfl rfl ⟨Nat.le_refl _, by unfold maxLen; omega⟩ ?_)
        refine G.unfull 37 rfl ?_
        refine AO.u ?_
        dsimp only [List.eraseIdx]
        (refine AO.append' (i := 0) rfl rfl rfl rfl (by rfl) (by rfl) rfl rfl rfl (by exact SrcA.ro TyD.ax (by rfl) (Nat.le_of_ble_eq_true rfl)) (by rfl) (by (unfold maxLen; omega)) (by omega) (by (dsimp only [List.set, List.append, List.cons_append, List.nil_append, roB_cells, roI_cells, roO_cells, splice, ofConst, AV.cells, List.map, List.map_cons, List.map_nil, List.take, List.drop, Nat.zero_add, Nat.add_zero, Nat.reduceAdd, Nat.reduceMul, Nat.zero_mul, Value.cells, List.toList_toArray, zerosA, List.replicate, List.flatten, List.append_nil]; done)) (fun _ => by (dsimp only [List.set]; done)) ?_)
        intro V6 hV6
        refine AO.op (O.assign rfl rfl) rfl rfl rfl ?_
        refine AO.op (O.assign rfl rfl) rfl rfl rfl ?_
        refine AO.nil ?_
        refine AQ.thenN ?_
        refine AW.ret ?_
        refine AQ.g ?_
        refine G.freezeRow 0 rfl [4] (by repeat (first | exact frNil | refine frCons rfl ?_)) ?_
        refine AQ.u ?_
        try dsimp only [List.map, List.eraseIdx, List.cons_append, List.nil_append]
        refine AQ.g ?_
        refine G.re 4 (roOb ((os.filter fun x => !meetsB x o) ++ [o])) (congrArg some (roOb_of (by rw [List.length_append]; rfl) (by rw [obsA_app]; rfl))) ?_
        refine AQ.u ?_
        refine FnQ.coe (AQ.ret2 rfl rfl rfl ⟨_, List.nil_sublist _, .nil⟩ ⟨rfl, rfl⟩) (Coe.tup (by (repeat (first | exact CoeL.nil | refine CoeL.cons Coe.rfl ?_)); done)) (retOb e)
end Go.Proofs.Ytjgmedmakbjkdaa.By

namespace Go.Proofs.Ytjgmedmakbjkdaa.By
open Go.RowKit L A
set_option linter.unusedVariables false
set_option linter.unusedSimpArgs false
attribute [local irreducible] AW AQ AO
set_option maxHeartbeats 4000000 in
theorem rcancel_fn (os : List Obs) (p : Int) (tk : List UInt8) (hsh : ShortOb os) : Sp Try.prog 15 [roOb os, .val (.int .i64 p), roB tk] [] (Is (.tup [roOb (canR os p tk), .val (.bool (decide (((canR os p tk).length : Int) < (os.length : Int))))])) := by
  have hlen := hsh.1
  have hfl := List.length_filter_le (canK p tk) os
  refine Sp.enter Try.func15 rfl _ Try.ntmps15 rfl (fun w0 R0 => ?_)
  refine AW.seq ?_
  refine AW.region ?_
  refine AO.op (O.assign rfl rfl) rfl rfl rfl ?_
  refine AO.op (O.assign rfl rfl) rfl rfl rfl ?_
  refine AO.nil ?_
  refine AQ.thenN ?_
  refine AW.seq ?_
  refine AW.region ?_
  refine AO.op (O.assign rfl rfl) rfl rfl rfl ?_
  refine AO.nil ?_
  refine AQ.thenN ?_
  refine AW.seq ?_
  refine AW.seq ?_
  refine AW.region ?_
  refine AO.op (O.move rfl rfl) rfl rfl rfl ?_
  refine AO.op (O.lenR rfl rfl) rfl rfl rfl ?_
  refine AO.op (O.move rfl rfl) rfl rfl rfl ?_
  refine AO.nil ?_
  refine AQ.thenN ?_
  refine AW.block ?_
  refine AW.g ?_
  refine G.nilRow 28 6 ?_
  refine AW.u ?_
  refine AW.loopK [(0, _), (1, _), (2, _), (11, _), (12, _)] (fun nn E H => ∃ (k : Nat) (V : Value), (k ≤ os.length) ∧ (V.oneCell' = true) ∧ nn = os.length - k ∧ E = [(8, .val V), (13, .val (.int .i64 (k : Int)))] ∧ H = [.row V 28 6 (keepO (canK p tk) os k).length (obsA (keepO (canK p tk) os k))]) _ (⟨0, .slice none 0 0, by omega, rfl, rfl, rfl, rfl⟩) (by repeat (first | exact envNil | refine envCons rfl ?_)) (by repeat (first | exact envNil | refine envCons rfl ?_)) (by repeat (first | exact subPnil | refine subPcons 0 rfl ?_)) ?_
  rintro nn E H ⟨k, V, hk1, hV, rfl, rfl, rfl⟩
  dsimp only [List.cons_append, List.nil_append]
  refine AW.seq ?_
  refine AW.region ?_
  refine AO.op (O.lss rfl rfl rfl (by rfl)) rfl rfl rfl ?_
  refine AO.nil ?_
  refine AQ.thenN ?_
  refine AW.seq ?_
  refine AW.split rfl (fun hlt => ?_) (fun hlt => ?_) <;> (try simp only [decide_eq_true_eq, decide_eq_false_iff_not, beq_iff_eq, beq_eq_false_iff_ne, bne_iff_ne, bne_eq_false_iff_eq, Bool.not_eq_true', Bool.not_eq_false', Bool.not_eq_true, Bool.not_eq_false, ne_eq, Int.not_lt, Int.not_le, Bool.and_eq_true, Bool.or_eq_true, Bool.or_eq_false_iff, Bool.and_eq_false_imp, strOf_toList, Decidable.not_not] at hlt)
  · skip
    have hkk : k < os.length := by omega
    have hle := keepO_le (canK p tk) os k
    have hsc := keepO_succ (K := canK p tk) hkk
    refine AW.skip ?_
    refine AQ.thenN ?_
    refine AW.seq ?_
    refine AW.block ?_
    refine AW.seq ?_
    refine AW.region ?_
    refine AO.op (O.idxR rfl rfl rfl ⟨(by omega), (by omega)⟩) rfl rfl rfl ?_
    refine AO.op (O.loadRK rfl rfl (by exact getOb (by omega) (by omega)) (by rfl)) rfl rfl rfl ?_
    refine AO.opB (O.alloc rfl (by (dsimp only [List.set, List.append, List.cons_append, List.nil_append, roB_cells, roI_cells, roO_cells, splice, ofConst, AV.cells, List.map, List.map_cons, List.map_nil, List.take, List.drop, Nat.zero_add, Nat.add_zero, Nat.reduceAdd, Nat.reduceMul, Nat.zero_mul, Value.cells, List.toList_toArray, zerosA, List.replicate, List.flatten, List.append_nil]; done)) (by rfl)) rfl rfl rfl ?_
    intro B1
    (refine AO.store (i := 0) rfl rfl rfl rfl rfl rfl (by rfl) (by rfl) (by rfl) (by (dsimp only [List.set, List.append, List.cons_append, List.nil_append, roB_cells, roI_cells, roO_cells, splice, ofConst, AV.cells, List.map, List.map_cons, List.map_nil, List.take, List.drop, Nat.zero_add, Nat.add_zero, Nat.reduceAdd, Nat.reduceMul, Nat.zero_mul, Value.cells, List.toList_toArray, zerosA, List.replicate, List.flatten, List.append_nil]; done)) (by (dsimp only [List.set, List.append, List.cons_append, List.nil_append, roB_cells, roI_cells, roO_cells, splice, ofConst, AV.cells, List.map, List.map_cons, List.map_nil, List.take, List.drop, Nat.zero_add, Nat.add_zero, Nat.reduceAdd, Nat.reduceMul, Nat.zero_mul, Value.cells, List.toList_toArray, zerosA, List.replicate, List.flatten, List.append_nil]; done)) ?_)
    refine AO.nil ?_
    refine AQ.thenN ?_
    refine AW.seq ?_
    refine AW.region ?_
    refine AO.op (O.fieldAddr rfl rfl) rfl rfl rfl ?_
    refine AO.op (O.load rfl rfl (by repeat (exact List.Mem.head _)) (by rfl)) rfl rfl rfl ?_
    refine AO.op (O.move rfl rfl) rfl rfl rfl ?_
    refine AO.op (O.neq rfl rfl rfl (by rfl)) rfl rfl rfl ?_
    refine AO.op (O.move rfl rfl) rfl rfl rfl ?_
    refine AO.opG rfl rfl rfl (fun hp => O.fieldAddr rfl rfl) ?_
    refine AO.opG rfl rfl rfl (fun hp => OpW.force 22 rfl (by exact hp) (O.load rfl rfl (by repeat (exact List.Mem.head _)) (by rfl))) ?_
    refine AO.opG rfl rfl rfl (fun hp => O.move rfl rfl) ?_
    refine AO.opG rfl rfl rfl (fun hp => OpW.force 23 rfl (by exact hp) (OpW.force 24 rfl (by exact hp) (O.call rfl Try.func32 rfl rfl rfl (equal26_fn _ _)))) ?_
    refine AO.opG rfl rfl rfl (fun hp => OpW.force 25 rfl (by exact hp) (O.not rfl rfl (by rfl))) ?_
    refine AO.op (O.pickOr rfl rfl rfl rfl (fun h => by exact congrArg (fun b => !b) h)) rfl rfl rfl ?_
    refine AO.nil ?_
    refine AQ.thenN ?_
    refine AW.split rfl (fun hK => ?_) (fun hK => ?_) <;> (try simp only [decide_eq_true_eq, decide_eq_false_iff_not, beq_iff_eq, beq_eq_false_iff_ne, bne_iff_ne, bne_eq_false_iff_eq, Bool.not_eq_true', Bool.not_eq_false', Bool.not_eq_true, Bool.not_eq_false, ne_eq, Int.not_lt, Int.not_le, Bool.and_eq_true, Bool.or_eq_true, Bool.or_eq_false_iff, Bool.and_eq_false_imp, strOf_toList, Decidable.not_not] at hK)
    · skip
      rw [if_pos (show canK p tk (obat os k) = true by simpa [canK] using hK)] at hsc
      refine AW.region ?_
      refine AO.op (O.move rfl rfl) rfl rfl rfl ?_
      refine AO.op (O.loadK rfl rfl (by repeat (exact List.Mem.head _)) (by rfl) (by rfl)) rfl rfl rfl ?_
      refine AO.opB (O.buildSlice rfl rfl rfl (by rfl) (by rfl) (by rfl) (by rfl)) rfl rfl rfl ?_
      intro B2
      refine AO.g ?_
      (refine G.freezeSl 0 30 rfl rfl ⟨Nat.le_refl _, by unfold maxLen; omega⟩ ?_)
      refine G.unfull 30 rfl ?_
      refine AO.u ?_
      dsimp only [List.eraseIdx]
      (refine AO.append' (i := 1) rfl rfl rfl rfl (by rfl) (by rfl) rfl rfl rfl (by exact SrcA.ro TyD.ax (by rfl) (Nat.le_of_ble_eq_true rfl)) (by rfl) (by (unfold maxLen; omega)) (by omega) (by (dsimp only [List.set, List.append, List.cons_append, List.nil_append, roB_cells, roI_cells, roO_cells, splice, ofConst, AV.cells, List.map, List.map_cons, List.map_nil, List.take, List.drop, Nat.zero_add, Nat.add_zero, Nat.reduceAdd, Nat.reduceMul, Nat.zero_mul, Value.cells, List.toList_toArray, zerosA, List.replicate, List.flatten, List.append_nil]; done)) (fun _ => by (dsimp only [List.set]; done)) ?_)
      intro V3 hV3
      refine AO.op (O.assign rfl rfl) rfl rfl rfl ?_
      refine AO.nil ?_
      refine AQ.blockN ?_
      refine AQ.thenN ?_
      refine AW.region ?_
      refine AO.op (O.add rfl rfl rfl (by exact wI64 (by omega))) rfl rfl rfl ?_
      refine AO.op (O.move rfl rfl) rfl rfl rfl ?_
      refine AO.nil ?_
      refine AQ.loopKN _ _ _ (by omega) (⟨k + 1, _, by omega, ‹_›, rfl, rfl, by rw [hsc, obsA_snoc, List.length_append]⟩) (by repeat (first | exact envNil | refine envCons rfl ?_)) (by repeat (first | exact envNil | refine envCons rfl ?_)) (by repeat (first | exact subPnil | refine subPcons 1 rfl ?_))
    · skip
      rw [if_neg (show ¬ canK p tk (obat os k) = true by simpa [canK] using hK), List.append_nil] at hsc
      refine AW.skip ?_
      refine AQ.blockN ?_
      refine AQ.thenN ?_
      refine AW.region ?_
      refine AO.op (O.add rfl rfl rfl (by exact wI64 (by omega))) rfl rfl rfl ?_
      refine AO.op (O.move rfl rfl) rfl rfl rfl ?_
      refine AO.nil ?_
      refine AQ.loopKN _ _ _ (by omega) (⟨k + 1, V, by omega, hV, rfl, rfl, by rw [hsc]⟩) (by repeat (first | exact envNil | refine envCons rfl ?_)) (by repeat (first | exact envNil | refine envCons rfl ?_)) (by repeat (first | exact subPnil | refine subPcons 1 rfl ?_))
  · skip
    obtain rfl : k = os.length := by omega
    rw [keepO_all]
    refine AW.exit ?_
    refine AQ.thenX ?_
    refine AQ.loopX ?_
    refine AQ.blockX rfl ?_
    refine AQ.thenN ?_
    refine AW.seq ?_
    refine AW.region ?_
    refine AO.op (O.move rfl rfl) rfl rfl rfl ?_
    refine AO.op (O.move rfl rfl) rfl rfl rfl ?_
    refine AO.op (O.lenRow rfl rfl (by repeat (exact List.Mem.head _))) rfl rfl rfl ?_
    refine AO.op (O.move rfl rfl) rfl rfl rfl ?_
    refine AO.op (O.lenR rfl rfl) rfl rfl rfl ?_
    refine AO.op (O.lss rfl rfl rfl (by rfl)) rfl rfl rfl ?_
    refine AO.op (O.assign rfl rfl) rfl rfl rfl ?_
    refine AO.op (O.assign rfl rfl) rfl rfl rfl ?_
    refine AO.nil ?_
    refine AQ.thenN ?_
    refine AW.ret ?_
    refine AQ.g ?_
    refine G.freezeRow 0 rfl [6] (by repeat (first | exact frNil | refine frCons rfl ?_)) ?_
    refine AQ.u ?_
    try dsimp only [List.map, List.eraseIdx, List.cons_append, List.nil_append]
    refine AQ.ret2 rfl rfl rfl ⟨_, List.nil_sublist _, .nil⟩ (⟨rfl, rfl⟩)
set_option maxHeartbeats 4000000 in
theorem rtargets_fn (os : List Obs) (p : ByteArray) (hsh : ShortOb os) : Sp Try.prog 17 [roOb os, .val (.string p)] [] (Is (roOb (tarR os p))) := by
  have hlen := hsh.1
  refine Sp.enter Try.func17 rfl _ Try.ntmps17 rfl (fun w0 R0 => ?_)
  refine AW.seq ?_
  refine AW.region ?_
  refine AO.op (O.assign rfl rfl) rfl rfl rfl ?_
  refine AO.nil ?_
  refine AQ.thenN ?_
  refine AW.seq ?_
  refine AW.region ?_
  refine AO.op (O.assign rfl rfl) rfl rfl rfl ?_
  refine AO.nil ?_
  refine AQ.thenN ?_
  refine AW.seq ?_
  refine AW.seq ?_
  refine AW.region ?_
  refine AO.op (O.move rfl rfl) rfl rfl rfl ?_
  refine AO.op (O.lenR rfl rfl) rfl rfl rfl ?_
  refine AO.op (O.move rfl rfl) rfl rfl rfl ?_
  refine AO.nil ?_
  refine AQ.thenN ?_
  refine AW.block ?_
  refine AW.g ?_
  refine G.nilRow 28 6 ?_
  refine AW.u ?_
  refine AW.loopK [(1, _), (8, _), (9, _)] (fun nn E H => ∃ (k : Nat) (V : Value), (k ≤ os.length) ∧ (V.oneCell' = true) ∧ nn = os.length - k ∧ E = [(5, .val V), (10, .val (.int .i64 (k : Int)))] ∧ H = [.row V 28 6 (keepO (fun x => eqS x.path p) os k).length (obsA (keepO (fun x => eqS x.path p) os k))]) _ (⟨0, .slice none 0 0, by omega, rfl, rfl, rfl, rfl⟩) (by repeat (first | exact envNil | refine envCons rfl ?_)) (by repeat (first | exact envNil | refine envCons rfl ?_)) (by repeat (first | exact subPnil | refine subPcons 0 rfl ?_)) ?_
  rintro nn E H ⟨k, V, hk1, hV, rfl, rfl, rfl⟩
  dsimp only [List.cons_append, List.nil_append]
  refine AW.seq ?_
  refine AW.region ?_
  refine AO.op (O.lss rfl rfl rfl (by rfl)) rfl rfl rfl ?_
  refine AO.nil ?_
  refine AQ.thenN ?_
  refine AW.seq ?_
  refine AW.split rfl (fun hlt => ?_) (fun hlt => ?_) <;> (try simp only [decide_eq_true_eq, decide_eq_false_iff_not, beq_iff_eq, beq_eq_false_iff_ne, bne_iff_ne, bne_eq_false_iff_eq, Bool.not_eq_true', Bool.not_eq_false', Bool.not_eq_true, Bool.not_eq_false, ne_eq, Int.not_lt, Int.not_le, Bool.and_eq_true, Bool.or_eq_true, Bool.or_eq_false_iff, Bool.and_eq_false_imp, strOf_toList, Decidable.not_not] at hlt)
  · skip
    have hkk : k < os.length := by omega
    have hle := keepO_le (fun x => eqS x.path p) os k
    have hsc := keepO_succ (K := fun x => eqS x.path p) hkk
    refine AW.skip ?_
    refine AQ.thenN ?_
    refine AW.seq ?_
    refine AW.block ?_
    refine AW.seq ?_
    refine AW.region ?_
    refine AO.op (O.idxR rfl rfl rfl ⟨(by omega), (by omega)⟩) rfl rfl rfl ?_
    refine AO.op (O.loadRK rfl rfl (by exact getOb (by omega) (by omega)) (by rfl)) rfl rfl rfl ?_
    refine AO.opB (O.alloc rfl (by (dsimp only [List.set, List.append, List.cons_append, List.nil_append, roB_cells, roI_cells, roO_cells, splice, ofConst, AV.cells, List.map, List.map_cons, List.map_nil, List.take, List.drop, Nat.zero_add, Nat.add_zero, Nat.reduceAdd, Nat.reduceMul, Nat.zero_mul, Value.cells, List.toList_toArray, zerosA, List.replicate, List.flatten, List.append_nil]; done)) (by rfl)) rfl rfl rfl ?_
    intro B1
    (refine AO.store (i := 0) rfl rfl rfl rfl rfl rfl (by rfl) (by rfl) (by rfl) (by (dsimp only [List.set, List.append, List.cons_append, List.nil_append, roB_cells, roI_cells, roO_cells, splice, ofConst, AV.cells, List.map, List.map_cons, List.map_nil, List.take, List.drop, Nat.zero_add, Nat.add_zero, Nat.reduceAdd, Nat.reduceMul, Nat.zero_mul, Value.cells, List.toList_toArray, zerosA, List.replicate, List.flatten, List.append_nil]; done)) (by (dsimp only [List.set, List.append, List.cons_append, List.nil_append, roB_cells, roI_cells, roO_cells, splice, ofConst, AV.cells, List.map, List.map_cons, List.map_nil, List.take, List.drop, Nat.zero_add, Nat.add_zero, Nat.reduceAdd, Nat.reduceMul, Nat.zero_mul, Value.cells, List.toList_toArray, zerosA, List.replicate, List.flatten, List.append_nil]; done)) ?_)
    refine AO.nil ?_
    refine AQ.thenN ?_
    refine AW.seq ?_
    refine AW.region ?_
    refine AO.op (O.fieldAddr rfl rfl) rfl rfl rfl ?_
    refine AO.op (O.load rfl rfl (by repeat (exact List.Mem.head _)) (by rfl)) rfl rfl rfl ?_
    refine AO.op (O.move rfl rfl) rfl rfl rfl ?_
    refine AO.op (O.eqlS rfl rfl rfl (by rfl)) rfl rfl rfl ?_
    refine AO.nil ?_
    refine AQ.thenN ?_
    refine AW.split rfl (fun hK => ?_) (fun hK => ?_) <;> (try simp only [decide_eq_true_eq, decide_eq_false_iff_not, beq_iff_eq, beq_eq_false_iff_ne, bne_iff_ne, bne_eq_false_iff_eq, Bool.not_eq_true', Bool.not_eq_false', Bool.not_eq_true, Bool.not_eq_false, ne_eq, Int.not_lt, Int.not_le, Bool.and_eq_true, Bool.or_eq_true, Bool.or_eq_false_iff, Bool.and_eq_false_imp, strOf_toList, Decidable.not_not] at hK)
    · skip
      rw [if_pos (show eqS (obat os k).path p = true by simpa [eqS] using hK)] at hsc
      refine AW.region ?_
      refine AO.op (O.move rfl rfl) rfl rfl rfl ?_
      refine AO.op (O.loadK rfl rfl (by repeat (exact List.Mem.head _)) (by rfl) (by rfl)) rfl rfl rfl ?_
      refine AO.opB (O.buildSlice rfl rfl rfl (by rfl) (by rfl) (by rfl) (by rfl)) rfl rfl rfl ?_
      intro B2
      refine AO.g ?_
      (refine G.freezeSl 0 20 rfl rfl ⟨Nat.le_refl _, by unfold maxLen; omega⟩ ?_)
      refine G.unfull 20 rfl ?_
      refine AO.u ?_
      dsimp only [List.eraseIdx]
      (refine AO.append' (i := 1) rfl rfl rfl rfl (by rfl) (by rfl) rfl rfl rfl (by exact SrcA.ro TyD.ax (by rfl) (Nat.le_of_ble_eq_true rfl)) (by rfl) (by (unfold maxLen; omega)) (by omega) (by (dsimp only [List.set, List.append, List.cons_append, List.nil_append, roB_cells, roI_cells, roO_cells, splice, ofConst, AV.cells, List.map, List.map_cons, List.map_nil, List.take, List.drop, Nat.zero_add, Nat.add_zero, Nat.reduceAdd, Nat.reduceMul, Nat.zero_mul, Value.cells, List.toList_toArray, zerosA, List.replicate, List.flatten, List.append_nil]; done)) (fun _ => by (dsimp only [List.set]; done)) ?_)
      intro V3 hV3
      refine AO.op (O.assign rfl rfl) rfl rfl rfl ?_
      refine AO.nil ?_
      refine AQ.blockN ?_
      refine AQ.thenN ?_
      refine AW.region ?_
      refine AO.op (O.add rfl rfl rfl (by exact wI64 (by omega))) rfl rfl rfl ?_
      refine AO.op (O.move rfl rfl) rfl rfl rfl ?_
      refine AO.nil ?_
      refine AQ.loopKN _ _ _ (by omega) (⟨k + 1, _, by omega, ‹_›, rfl, rfl, by rw [hsc, obsA_snoc, List.length_append]⟩) (by repeat (first | exact envNil | refine envCons rfl ?_)) (by repeat (first | exact envNil | refine envCons rfl ?_)) (by repeat (first | exact subPnil | refine subPcons 1 rfl ?_))
    · skip
      rw [if_neg (show ¬ eqS (obat os k).path p = true by simpa [eqS] using hK), List.append_nil] at hsc
      refine AW.skip ?_
      refine AQ.blockN ?_
      refine AQ.thenN ?_
      refine AW.region ?_
      refine AO.op (O.add rfl rfl rfl (by exact wI64 (by omega))) rfl rfl rfl ?_
      refine AO.op (O.move rfl rfl) rfl rfl rfl ?_
      refine AO.nil ?_
      refine AQ.loopKN _ _ _ (by omega) (⟨k + 1, V, by omega, hV, rfl, rfl, by rw [hsc]⟩) (by repeat (first | exact envNil | refine envCons rfl ?_)) (by repeat (first | exact envNil | refine envCons rfl ?_)) (by repeat (first | exact subPnil | refine subPcons 1 rfl ?_))
  · skip
    obtain rfl : k = os.length := by omega
    rw [keepO_all]
    refine AW.exit ?_
    refine AQ.thenX ?_
    refine AQ.loopX ?_
    refine AQ.blockX rfl ?_
    refine AQ.thenN ?_
    refine AW.seq ?_
    refine AW.region ?_
    refine AO.op (O.move rfl rfl) rfl rfl rfl ?_
    refine AO.op (O.assign rfl rfl) rfl rfl rfl ?_
    refine AO.nil ?_
    refine AQ.thenN ?_
    refine AW.ret ?_
    refine AQ.g ?_
    refine G.freezeRow 0 rfl [4] (by repeat (first | exact frNil | refine frCons rfl ?_)) ?_
    refine AQ.u ?_
    try dsimp only [List.map, List.eraseIdx, List.cons_append, List.nil_append]
    refine AQ.ret1 rfl rfl ⟨_, List.nil_sublist _, .nil⟩ (⟨rfl, rfl⟩)
set_option maxHeartbeats 4000000 in
theorem rforget_fn (os : List Obs) (p : Int) (hsh : ShortOb os) : Sp Try.prog 19 [roOb os, .val (.int .i64 p)] [] (Is (roOb (forR os p))) := by
  have hlen := hsh.1
  refine Sp.enter Try.func19 rfl _ Try.ntmps19 rfl (fun w0 R0 => ?_)
  refine AW.seq ?_
  refine AW.region ?_
  refine AO.op (O.assign rfl rfl) rfl rfl rfl ?_
  refine AO.nil ?_
  refine AQ.thenN ?_
  refine AW.seq ?_
  refine AW.region ?_
  refine AO.op (O.assign rfl rfl) rfl rfl rfl ?_
  refine AO.nil ?_
  refine AQ.thenN ?_
  refine AW.seq ?_
  refine AW.seq ?_
  refine AW.region ?_
  refine AO.op (O.move rfl rfl) rfl rfl rfl ?_
  refine AO.op (O.lenR rfl rfl) rfl rfl rfl ?_
  refine AO.op (O.move rfl rfl) rfl rfl rfl ?_
  refine AO.nil ?_
  refine AQ.thenN ?_
  refine AW.block ?_
  refine AW.g ?_
  refine G.nilRow 28 6 ?_
  refine AW.u ?_
  refine AW.loopK [(1, _), (8, _), (9, _)] (fun nn E H => ∃ (k : Nat) (V : Value), (k ≤ os.length) ∧ (V.oneCell' = true) ∧ nn = os.length - k ∧ E = [(5, .val V), (10, .val (.int .i64 (k : Int)))] ∧ H = [.row V 28 6 (keepO (fun x => x.peer != p) os k).length (obsA (keepO (fun x => x.peer != p) os k))]) _ (⟨0, .slice none 0 0, by omega, rfl, rfl, rfl, rfl⟩) (by repeat (first | exact envNil | refine envCons rfl ?_)) (by repeat (first | exact envNil | refine envCons rfl ?_)) (by repeat (first | exact subPnil | refine subPcons 0 rfl ?_)) ?_
  rintro nn E H ⟨k, V, hk1, hV, rfl, rfl, rfl⟩
  dsimp only [List.cons_append, List.nil_append]
  refine AW.seq ?_
  refine AW.region ?_
  refine AO.op (O.lss rfl rfl rfl (by rfl)) rfl rfl rfl ?_
  refine AO.nil ?_
  refine AQ.thenN ?_
  refine AW.seq ?_
  refine AW.split rfl (fun hlt => ?_) (fun hlt => ?_) <;> (try simp only [decide_eq_true_eq, decide_eq_false_iff_not, beq_iff_eq, beq_eq_false_iff_ne, bne_iff_ne, bne_eq_false_iff_eq, Bool.not_eq_true', Bool.not_eq_false', Bool.not_eq_true, Bool.not_eq_false, ne_eq, Int.not_lt, Int.not_le, Bool.and_eq_true, Bool.or_eq_true, Bool.or_eq_false_iff, Bool.and_eq_false_imp, strOf_toList, Decidable.not_not] at hlt)
  · skip
    have hkk : k < os.length := by omega
    have hle := keepO_le (fun x => x.peer != p) os k
    have hsc := keepO_succ (K := fun x => x.peer != p) hkk
    refine AW.skip ?_
    refine AQ.thenN ?_
    refine AW.seq ?_
    refine AW.block ?_
    refine AW.seq ?_
    refine AW.region ?_
    refine AO.op (O.idxR rfl rfl rfl ⟨(by omega), (by omega)⟩) rfl rfl rfl ?_
    refine AO.op (O.loadRK rfl rfl (by exact getOb (by omega) (by omega)) (by rfl)) rfl rfl rfl ?_
    refine AO.opB (O.alloc rfl (by (dsimp only [List.set, List.append, List.cons_append, List.nil_append, roB_cells, roI_cells, roO_cells, splice, ofConst, AV.cells, List.map, List.map_cons, List.map_nil, List.take, List.drop, Nat.zero_add, Nat.add_zero, Nat.reduceAdd, Nat.reduceMul, Nat.zero_mul, Value.cells, List.toList_toArray, zerosA, List.replicate, List.flatten, List.append_nil]; done)) (by rfl)) rfl rfl rfl ?_
    intro B1
    (refine AO.store (i := 0) rfl rfl rfl rfl rfl rfl (by rfl) (by rfl) (by rfl) (by (dsimp only [List.set, List.append, List.cons_append, List.nil_append, roB_cells, roI_cells, roO_cells, splice, ofConst, AV.cells, List.map, List.map_cons, List.map_nil, List.take, List.drop, Nat.zero_add, Nat.add_zero, Nat.reduceAdd, Nat.reduceMul, Nat.zero_mul, Value.cells, List.toList_toArray, zerosA, List.replicate, List.flatten, List.append_nil]; done)) (by (dsimp only [List.set, List.append, List.cons_append, List.nil_append, roB_cells, roI_cells, roO_cells, splice, ofConst, AV.cells, List.map, List.map_cons, List.map_nil, List.take, List.drop, Nat.zero_add, Nat.add_zero, Nat.reduceAdd, Nat.reduceMul, Nat.zero_mul, Value.cells, List.toList_toArray, zerosA, List.replicate, List.flatten, List.append_nil]; done)) ?_)
    refine AO.nil ?_
    refine AQ.thenN ?_
    refine AW.seq ?_
    refine AW.region ?_
    refine AO.op (O.fieldAddr rfl rfl) rfl rfl rfl ?_
    refine AO.op (O.load rfl rfl (by repeat (exact List.Mem.head _)) (by rfl)) rfl rfl rfl ?_
    refine AO.op (O.move rfl rfl) rfl rfl rfl ?_
    refine AO.op (O.neq rfl rfl rfl (by rfl)) rfl rfl rfl ?_
    refine AO.nil ?_
    refine AQ.thenN ?_
    refine AW.split rfl (fun hK => ?_) (fun hK => ?_) <;> (try simp only [decide_eq_true_eq, decide_eq_false_iff_not, beq_iff_eq, beq_eq_false_iff_ne, bne_iff_ne, bne_eq_false_iff_eq, Bool.not_eq_true', Bool.not_eq_false', Bool.not_eq_true, Bool.not_eq_false, ne_eq, Int.not_lt, Int.not_le, Bool.and_eq_true, Bool.or_eq_true, Bool.or_eq_false_iff, Bool.and_eq_false_imp, strOf_toList, Decidable.not_not] at hK)
    · skip
      rw [if_pos (show ((obat os k).peer != p) = true by simpa using hK)] at hsc
      refine AW.region ?_
      refine AO.op (O.move rfl rfl) rfl rfl rfl ?_
      refine AO.op (O.loadK rfl rfl (by repeat (exact List.Mem.head _)) (by rfl) (by rfl)) rfl rfl rfl ?_
      refine AO.opB (O.buildSlice rfl rfl rfl (by rfl) (by rfl) (by rfl) (by rfl)) rfl rfl rfl ?_
      intro B2
      refine AO.g ?_
      (refine G.freezeSl 0 20 rfl rfl ⟨Nat.le_refl _, by unfold maxLen; omega⟩ ?_)
      refine G.unfull 20 rfl ?_
      refine AO.u ?_
      dsimp only [List.eraseIdx]
      (refine AO.append' (i := 1) rfl rfl rfl rfl (by rfl) (by rfl) rfl rfl rfl (by exact SrcA.ro TyD.ax (by rfl) (Nat.le_of_ble_eq_true rfl)) (by rfl) (by (unfold maxLen; omega)) (by omega) (by (dsimp only [List.set, List.append, List.cons_append, List.nil_append, roB_cells, roI_cells, roO_cells, splice, ofConst, AV.cells, List.map, List.map_cons, List.map_nil, List.take, List.drop, Nat.zero_add, Nat.add_zero, Nat.reduceAdd, Nat.reduceMul, Nat.zero_mul, Value.cells, List.toList_toArray, zerosA, List.replicate, List.flatten, List.append_nil]; done)) (fun _ => by (dsimp only [List.set]; done)) ?_)
      intro V3 hV3
      refine AO.op (O.assign rfl rfl) rfl rfl rfl ?_
      refine AO.nil ?_
      refine AQ.blockN ?_
      refine AQ.thenN ?_
      refine AW.region ?_
      refine AO.op (O.add rfl rfl rfl (by exact wI64 (by omega))) rfl rfl rfl ?_
      refine AO.op (O.move rfl rfl) rfl rfl rfl ?_
      refine AO.nil ?_
      refine AQ.loopKN _ _ _ (by omega) (⟨k + 1, _, by omega, ‹_›, rfl, rfl, by rw [hsc, obsA_snoc, List.length_append]⟩) (by repeat (first | exact envNil | refine envCons rfl ?_)) (by repeat (first | exact envNil | refine envCons rfl ?_)) (by repeat (first | exact subPnil | refine subPcons 1 rfl ?_))
    · skip
      rw [if_neg (show ¬ ((obat os k).peer != p) = true by simpa using hK), List.append_nil] at hsc
      refine AW.skip ?_
      refine AQ.blockN ?_
      refine AQ.thenN ?_
      refine AW.region ?_
      refine AO.op (O.add rfl rfl rfl (by exact wI64 (by omega))) rfl rfl rfl ?_
      refine AO.op (O.move rfl rfl) rfl rfl rfl ?_
      refine AO.nil ?_
      refine AQ.loopKN _ _ _ (by omega) (⟨k + 1, V, by omega, hV, rfl, rfl, by rw [hsc]⟩) (by repeat (first | exact envNil | refine envCons rfl ?_)) (by repeat (first | exact envNil | refine envCons rfl ?_)) (by repeat (first | exact subPnil | refine subPcons 1 rfl ?_))
  · skip
    obtain rfl : k = os.length := by omega
    rw [keepO_all]
    refine AW.exit ?_
    refine AQ.thenX ?_
    refine AQ.loopX ?_
    refine AQ.blockX rfl ?_
    refine AQ.thenN ?_
    refine AW.seq ?_
    refine AW.region ?_
    refine AO.op (O.move rfl rfl) rfl rfl rfl ?_
    refine AO.op (O.assign rfl rfl) rfl rfl rfl ?_
    refine AO.nil ?_
    refine AQ.thenN ?_
    refine AW.ret ?_
    refine AQ.g ?_
    refine G.freezeRow 0 rfl [4] (by repeat (first | exact frNil | refine frCons rfl ?_)) ?_
    refine AQ.u ?_
    try dsimp only [List.map, List.eraseIdx, List.cons_append, List.nil_append]
    refine AQ.ret1 rfl rfl ⟨_, List.nil_sublist _, .nil⟩ (⟨rfl, rfl⟩)
end Go.Proofs.Ytjgmedmakbjkdaa.By
