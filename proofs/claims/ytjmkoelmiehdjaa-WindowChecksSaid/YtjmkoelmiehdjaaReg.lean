/-
  A region that draws its order, its plain operations (which only read and compute) taken first, the others in every order that is left; over any program.
-/
import Derived.Test.YtjmkoelmiehdjaaFlow
namespace Go.Proofs.Ytjmkoelmiehdjaa.L
open Go.RowKit
set_option linter.unusedVariables false
set_option linter.unusedSimpArgs false

theorem Mods.undrew {S : Nat → Prop} {w w' : World} (h : Mods S w w') : Mods S w.drew w' := ⟨h.os, h.tape, h.output, h.size, h.block⟩

/-- Only the plain way on is asked. -/
def NormQ (Q : Act → World → Prop) : Exit → Act → World → Prop
  | .normal, a, w => Q a w
  | _, _, _ => False

@[go_sem] theorem normQ_normal (Q : Act → World → Prop) (a : Act) (w : World) : NormQ Q .normal a w = Q a w := rfl
@[go_sem] theorem normQ_panic (Q : Act → World → Prop) (c : List PanicEntry) (a : Act) (w : World) : NormQ Q (.panic c) a w = False := rfl

def wpAnyG (P : Program) (ops : Array Oper) (w0 : World) (wv : Nat → Bool) (Q : Act → World → Prop) : Nat → Array Bool → Act → World → Prop
  | 0, listed, a, w => Region.ready .any ops listed = [] ∧ Q a w
  | fuel + 1, listed, a, w => (Region.ready .any ops listed = [] → Q a w) ∧
    ∀ i ∈ Region.ready .any ops listed, wpOp P ops (NormQ Q) i (fun a' w' => (wv i = false → Ext w0 w') ∧ wpAnyG P ops w0 wv Q fuel (listed.setIfInBounds i true) a' w') a w

section
variable {P : Program} {ops : Array Oper} {Q : Act → World → Prop} {w0 : World} {wv : Nat → Bool}

theorem wpAny_of_G : ∀ (fuel : Nat) (listed : Array Bool) (a : Act) (w : World), wpAnyG P ops w0 wv Q fuel listed a w → wpAny P .any ops (NormQ Q) fuel listed a w
  | 0, _, _, _, h => h
  | fuel + 1, _, _, _, h => ⟨h.1, fun i hi => wpOp_mono (fun a' w' h' => wpAny_of_G fuel _ a' w' h'.2) (h.2 i hi)⟩

theorem wp_region_g {id : Nat} {l : List Oper} {Q : Exit → Act → World → Prop} {a : Act} {w : World} (wv : Nat → Bool) (hm : P.follows .mixedOrders = true)
    (h : wpAnyG P l.toArray w.drew wv (fun a' w' => Q .normal a' w') l.length (Array.replicate l.length false) a w.drew) : (Code.region id l.toArray true).wp P Q a w := by
  refine wp_mono (Q := NormQ fun a' w' => Q .normal a' w') ?_ fun e a' w' he => ?_
  · refine wp_region_any hm ?_
    have := wpAny_of_G _ _ _ _ h
    simpa using this
  · cases e <;> first | exact he | exact (he : False).elim

def waitsOn (o : Oper) (j : Nat) : Bool := o.after.any fun e => Region.binds .any e && e.on == j
theorem waitsOn_spec {o : Oper} {j : Nat} (h : waitsOn o j = true) : ∃ x ∈ o.after, Region.binds .any x = true ∧ x.on = j := by
  obtain ⟨x, hx, hx2⟩ := any_mem h
  simp only [Bool.and_eq_true, beq_iff_eq] at hx2
  exact ⟨x, hx, hx2.1, hx2.2⟩

/-- Operation i may be taken now: plain; it waits only for what is listed or in 'before'; of the operations that are not listed only those in 'before', for which it waits, write what it looks at; nobody else writes its temporary; and whoever is not in E and looks at it, or is let off, waits for it. -/
def takeOkAt (ops : Array Oper) (listed : Array Bool) (wv : Nat → Bool) (E before : List Nat) (size i : Nat) : Bool :=
  (ops[i]?).any fun o => plainOp o && !listed.getD i true && (match o.dst with
    | some d => decide (d < size) && !(o.looksAt ops).contains d &&
      (o.after.all fun e => !Region.binds .any e || listed.getD e.on false || before.contains e.on) &&
      (List.range ops.size).all fun j => j == i || listed.getD j true || (ops[j]?).all fun oj =>
        oj.dst != some d && (match oj.dst with | some dj => !(o.looksAt ops).contains dj || (before.contains j && waitsOn o j) | none => true) &&
        (E.contains j || ((!(oj.looksAt ops).contains d || waitsOn oj i) && (!wv j || waitsOn oj i)))
    | none => false)

def takeOk (ops : Array Oper) (listed : Array Bool) (wv : Nat → Bool) (E : List Nat) (size : Nat) : List Nat → List Nat → Bool
  | _, [] => true
  | before, i :: rest => takeOkAt ops listed wv E before size i && !before.contains i && takeOk ops listed wv E size (before ++ [i]) rest

def dstOf (ops : Array Oper) (i : Nat) : Tmp := ((ops[i]?).bind (·.dst)).getD 0

structure Took (ops : Array Oper) (listed : Array Bool) (wv : Nat → Bool) (E : List Nat) (size i : Nat) : Prop where
  ex : ∃ o, ops[i]? = some o ∧ plainOp o = true ∧ o.dst = some (dstOf ops i) ∧ dstOf ops i ∉ o.looksAt ops
  free : listed.getD i true = false
  lt : dstOf ops i < size
  own : ∀ j oj, ops[j]? = some oj → j ≠ i → listed.getD j true = false → oj.dst ≠ some (dstOf ops i)
  looks : ∀ o j oj dj, ops[i]? = some o → ops[j]? = some oj → j ≠ i → listed.getD j true = false → oj.dst = some dj → dj ∈ o.looksAt ops → j ∈ E ∧ waitsOn o j = true
  read : ∀ j oj, ops[j]? = some oj → j ≠ i → listed.getD j true = false → j ∉ E → (dstOf ops i ∈ oj.looksAt ops → waitsOn oj i = true) ∧ (wv j = true → waitsOn oj i = true)

theorem takeOkAt_spec {listed : Array Bool} {E before : List Nat} {size i : Nat} (h : takeOkAt ops listed wv E before size i = true) (hb : ∀ j ∈ before, j ∈ E) :
    Took ops listed wv E size i ∧ ∀ o, ops[i]? = some o → ∀ e ∈ o.after, Region.binds .any e = true → listed.getD e.on false = true ∨ e.on ∈ before := by
  unfold takeOkAt at h
  cases ho : ops[i]? with
  | none => rw [ho] at h; cases h
  | some o =>
  rw [ho] at h
  simp only [Option.any_some] at h
  simp only [Bool.and_eq_true, Bool.not_eq_true'] at h
  obtain ⟨⟨hpl, hfr⟩, h⟩ := h
  split at h
  · rename_i d hd
    simp only [Bool.and_eq_true, decide_eq_true_eq, Bool.not_eq_true', List.contains_eq_mem, decide_eq_false_iff_not, List.all_eq_true, List.mem_range] at h
    obtain ⟨⟨⟨hlt, hself⟩, hback⟩, hall⟩ := h
    have hdi : dstOf ops i = d := by simp [dstOf, ho, hd]
    have pair : ∀ j oj, ops[j]? = some oj → j ≠ i → listed.getD j true = false →
        oj.dst ≠ some d ∧ (∀ dj, oj.dst = some dj → dj ∈ o.looksAt ops → j ∈ before ∧ waitsOn o j = true) ∧ (j ∉ E → (d ∈ oj.looksAt ops → waitsOn oj i = true) ∧ (wv j = true → waitsOn oj i = true)) := by
      intro j oj hoj hji hlj
      have hjs : j < ops.size := (Array.getElem?_eq_some_iff.1 hoj).1
      have := hall j hjs
      simp only [hoj, hlj, Option.all_some, Bool.or_eq_true, beq_iff_eq, hji, false_or, Bool.and_eq_true, bne_iff_ne, ne_eq, Bool.false_eq_true, or_false, decide_eq_true_eq, Bool.not_eq_true', decide_eq_false_iff_not] at this
      obtain ⟨⟨h1, h2⟩, h3⟩ := this
      refine ⟨h1, fun dj hdj hm => ?_, fun hjE => ?_⟩
      · rw [hdj] at h2
        simp only [Bool.or_eq_true, Bool.and_eq_true, Bool.not_eq_true', decide_eq_false_iff_not, decide_eq_true_eq] at h2
        exact h2.resolve_left fun hn => hn hm
      · have h4 := h3.resolve_left hjE
        refine ⟨fun hm => h4.1.resolve_left fun hn => hn hm, fun hw => h4.2.resolve_left fun hn => by rw [hw] at hn; cases hn⟩
    refine ⟨⟨⟨o, ho, hpl, by rw [hdi]; exact hd, by rw [hdi]; exact hself⟩, hfr, by rw [hdi]; exact hlt, fun j oj hoj hji hlj => by rw [hdi]; exact (pair j oj hoj hji hlj).1, ?_, ?_⟩, ?_⟩
    · intro o' j oj dj ho' hoj hji hlj hdj hm
      obtain rfl : o = o' := by rw [ho] at ho'; exact Option.some.inj ho'
      have := (pair j oj hoj hji hlj).2.1 dj hdj hm
      exact ⟨hb j this.1, this.2⟩
    · intro j oj hoj hji hlj hjE
      rw [hdi]; exact (pair j oj hoj hji hlj).2.2 hjE
    · intro o' ho' e he hbe
      obtain rfl : o = o' := Option.some.inj ho'
      have := Array.all_eq_true_iff_forall_mem.1 hback e he
      simp only [hbe, Bool.not_true, Bool.false_or, Bool.or_eq_true, decide_eq_true_eq] at this
      simpa using this
  · cases h


theorem notin_of_takeOk {listed : Array Bool} {E : List Nat} {size k : Nat} : ∀ (l2 b2 : List Nat), takeOk ops listed wv E size b2 l2 = true → k ∈ b2 → k ∉ l2 := by
  intro l2
  induction l2 with
  | nil => intro b2 _ _ hm; cases hm
  | cons x l2 ih2 =>
    intro b2 hk hb hm
    simp only [takeOk, Bool.and_eq_true, Bool.not_eq_true', List.contains_eq_mem, decide_eq_false_iff_not] at hk
    rcases List.mem_cons.1 hm with e | hm
    · exact hk.1.2 (e ▸ hb)
    · exact ih2 _ hk.2 (List.mem_append_left _ hb) hm

theorem wanted_agree {o : Oper} {A B : Act} (hsz : A.tmps.size = B.tmps.size) (hag : ∀ t ∈ o.looksAt ops, A.eval (.tmp t) = B.eval (.tmp t)) :
    Region.wanted o (yielded ops A.tmps) = Region.wanted o (yielded ops B.tmps) := by
  unfold Region.wanted
  cases hg : o.guard with
  | none => rfl
  | some gw =>
    obtain ⟨g, want⟩ := gw
    have hy : yielded ops A.tmps g = yielded ops B.tmps g := by
      unfold yielded
      cases ht : (ops[g]?).bind (·.dst) with
      | none => rfl
      | some t =>
        have he := hag t (List.mem_append_right _ (by simp [hg, ht]))
        by_cases hts : t < A.tmps.size
        · have hts' : t < B.tmps.size := by rw [← hsz]; exact hts
          simp [Act.eval, Array.getD, hts, hts'] at he
          simp [hts, hts', he]
        · have hts' : ¬ t < B.tmps.size := by rw [← hsz]; exact hts
          simp [hts, hts']
    simp only [hy]

theorem exec_agree {o : Oper} {A B : Act} (hns : ∀ cs b, o.op ≠ .select cs b) (hag : ∀ t ∈ o.looksAt ops, A.eval (.tmp t) = B.eval (.tmp t)) : execOp A.eval o = execOp B.eval o :=
  execOp_congr o hns fun x hx => by
    cases x with
    | tmp t => exact hag t (List.mem_append_left _ (List.mem_filterMap.2 ⟨.tmp t, by simpa using hx, rfl⟩))
    | _ => rfl

/-- What a walk of the plain operations shows: each has one outcome, at the frame behind them all. -/
theorem quiet_ends {listed : Array Bool} {E : List Nat} {C : World → Prop} {Q' : Act → Prop} : ∀ (is before : List Nat) (l : List Oper) (a : Act), takeOk ops listed wv E a.tmps.size before is = true → (∀ j ∈ before ++ is, j ∈ E) →
    is.map (fun i => ops[i]?) = l.map some → wpQuiet P ops C Q' l a →
    ∃ a1 : Act, Q' a1 ∧ a1.tmps.size = a.tmps.size ∧ a1.defers = a.defers ∧ (∀ t, (∀ i ∈ is, dstOf ops i ≠ t) → a1.eval (.tmp t) = a.eval (.tmp t)) ∧
      (∀ i ∈ is, Took ops listed wv E a.tmps.size i) ∧ (∀ i ∈ is, ∀ o, ops[i]? = some o → YieldsIn P ops C o (a1.eval (.tmp (dstOf ops i))) a1) := by
  intro is
  induction is with
  | nil =>
    intro before l a _ _ hl h
    cases l with
    | nil => exact ⟨a, h, rfl, rfl, fun _ _ => rfl, fun i hi => (by cases hi), fun i hi => (by cases hi)⟩
    | cons o l => simp at hl
  | cons i is ih =>
    intro before l a hok hsub hl h
    cases l with
    | nil => simp at hl
    | cons o l =>
      simp only [List.map_cons, List.cons.injEq] at hl
      obtain ⟨ho, hl⟩ := hl
      simp only [takeOk, Bool.and_eq_true] at hok
      obtain ⟨⟨hat, hnb⟩, hok⟩ := hok
      obtain ⟨hT, _⟩ := takeOkAt_spec hat fun j hj => hsub j (List.mem_append_left _ hj)
      obtain ⟨o', ho', hpl, hd, hself⟩ := hT.ex
      obtain rfl : o = o' := by rw [ho] at ho'; exact Option.some.inj ho'
      -- the step
      have hstep : ∃ v, YieldsIn P ops C o v a ∧ wpQuiet P ops C Q' l (a.put o.dst v) := by
        unfold wpQuiet at h
        split at h
        · rename_i hw
          obtain ⟨v, h1, h2⟩ := h
          exact ⟨v, .inl ⟨hw, h1⟩, h2⟩
        · rename_i hw
          exact ⟨undef, .inr ⟨by simpa using hw, rfl⟩, h⟩
      obtain ⟨v, hy, hq⟩ := hstep
      rw [hd] at hq
      have hsz : (a.put (some (dstOf ops i)) v).tmps.size = a.tmps.size := by simp [Act.put]
      obtain ⟨a1, hQ, h1, h2, h3, h4, h5⟩ := ih (before ++ [i]) l _ (by rw [hsz]; exact hok) (fun j hj => hsub j (by simpa using hj)) hl hq
      rw [hsz] at h1 h4
      have hne : ∀ j ∈ is, dstOf ops j ≠ dstOf ops i := fun j hj e => by
        have hTj := h4 j hj
        obtain ⟨oj, hoj, _, hdj, _⟩ := hTj.ex
        by_cases hji : i = j
        · -- i again
          subst hji
          exact notin_of_takeOk is (before ++ [i]) hok (by simp) hj
        · exact hTj.own i o ho hji hT.free (by rw [hd, e])
      refine ⟨a1, hQ, h1, by rw [h2]; simp [Act.put], ?_, ?_, ?_⟩
      · intro t ht
        rw [h3 t fun j hj => ht j (List.mem_cons_of_mem _ hj), eval_put_other (ht i (List.mem_cons_self ..))]
      · intro j hj
        rcases List.mem_cons.1 hj with rfl | hj
        · exact hT
        · exact h4 j hj
      · intro j hj oj hoj
        rcases List.mem_cons.1 hj with rfl | hj
        · obtain rfl : o = oj := by rw [ho] at hoj; exact Option.some.inj hoj
          have hv : a1.eval (.tmp (dstOf ops j)) = v := by rw [h3 _ hne, eval_put_same hT.lt]
          rw [hv]
          have hag : ∀ t ∈ o.looksAt ops, a1.eval (.tmp t) = a.eval (.tmp t) := fun t ht => by
            have hjt : dstOf ops j ≠ t := fun e => hself (by rw [e]; exact ht)
            have hkt : ∀ k ∈ is, dstOf ops k ≠ t := fun k hk e => by
              have hTk := h4 k hk
              obtain ⟨ok, hok', _, hdk, _⟩ := hTk.ex
              by_cases hkj : k = j
              · subst hkj; exact hjt e
              · have := hT.looks o k ok _ ho hok' hkj hTk.free hdk (by rw [e]; exact ht)
                obtain ⟨x, hx, hxb, hxo⟩ := waitsOn_spec this.2
                have hb2 := (takeOkAt_spec hat fun j hj => hsub j (List.mem_append_left _ hj)).2 o ho x hx hxb
                rw [hxo] at hb2
                rcases hb2 with hb2 | hb2
                · have hf := hTk.free
                  by_cases hks : k < listed.size
                  · rw [getD_tf hks, hb2] at hf; cases hf
                  · simp [Array.getD, hks] at hf
                · exact notin_of_takeOk is (before ++ [j]) hok (List.mem_append_left _ hb2) hk
            rw [h3 t hkt, eval_put_other hjt]
          refine hy.of_same (execOp_congr o ?_ fun x hx => ?_) ?_
          · intro cs b e; simp [plainOp, e] at hpl
          · cases x with
            | tmp t => exact hag t (List.mem_append_left _ (List.mem_filterMap.2 ⟨.tmp t, by simpa using hx, rfl⟩))
            | _ => rfl
          · exact wanted_agree h1 hag
        · exact h5 j hj oj hoj


theorem getD_not {listed : Array Bool} {i : Nat} (h : listed.getD i true = false) : i < listed.size ∧ listed.getD i false = false := by
  by_cases hs : i < listed.size
  · exact ⟨hs, by rw [← getD_tf hs]; exact h⟩
  · simp [Array.getD, hs] at h
theorem getD_true_of {listed : Array Bool} {i : Nat} (hs : i < listed.size) (h : listed.getD i false = false) : listed.getD i true = false := by rw [getD_tf hs]; exact h

theorem takeOk_split {listed : Array Bool} {E : List Nat} {size : Nat} : ∀ (l1 before : List Nat) (i : Nat) (l2 : List Nat), takeOk ops listed wv E size before (l1 ++ i :: l2) = true → (∀ j ∈ before ++ (l1 ++ i :: l2), j ∈ E) →
    ∀ o, ops[i]? = some o → ∀ e ∈ o.after, Region.binds .any e = true → listed.getD e.on false = true ∨ e.on ∈ before ++ l1 := by
  intro l1
  induction l1 with
  | nil =>
    intro before i l2 h hsub
    simp only [List.nil_append, takeOk, Bool.and_eq_true] at h
    have := (takeOkAt_spec h.1.1 fun j hj => hsub j (List.mem_append_left _ hj)).2
    simpa using this
  | cons x l1 ih =>
    intro before i l2 h hsub
    simp only [List.cons_append, takeOk, Bool.and_eq_true] at h
    have := ih (before ++ [x]) i l2 h.2 (fun j hj => hsub j (by simpa using hj))
    simpa using this

structure GInv (P : Program) (ops : Array Oper) (w0 : World) (wv : Nat → Bool) (E : List Nat) (listed0 listed : Array Bool) (A : Act) (W : World) (listedB : Array Bool) (B : Act) : Prop where
  s1 : listed.size = ops.size
  s2 : listedB.size = ops.size
  mono : ∀ i, listed0.getD i false = true → listed.getD i false = true
  both : ∀ i, i < ops.size → listedB.getD i false = (listed.getD i false || decide (i ∈ E))
  tmps : A.tmps.size = B.tmps.size
  defers : A.defers = B.defers
  same : ∀ t, (∀ i ∈ E, listed.getD i false = false → dstOf ops i ≠ t) → A.eval (.tmp t) = B.eval (.tmp t)
  pend : ∀ i ∈ E, listed.getD i false = false → ∀ o, ops[i]? = some o → YieldsIn P ops (fun w => ∃ x : SW w0, w = x.w) o (B.eval (.tmp (dstOf ops i))) B
  ext : (∃ i ∈ E, listed.getD i false = false) → Ext w0 W

theorem G_run {E : List Nat} {listed0 : Array Bool} {size0 : Nat} (hsel : ∀ (j : Nat) (o : Oper) cs b, ops[j]? = some o → o.op ≠ .select cs b) (hs0 : listed0.size = ops.size)
    (hT : ∀ i ∈ E, Took ops listed0 wv E size0 i) (hord : takeOk ops listed0 wv E size0 [] E = true) :
    ∀ (fuel : Nat) (listed : Array Bool) (A : Act) (W : World) (fuelB : Nat) (listedB : Array Bool) (B : Act), fuel = listed.toList.count false → fuelB = listedB.toList.count false → B.tmps.size = size0 →
      GInv P ops w0 wv E listed0 listed A W listedB B → wpAnyG P ops w0 wv Q fuelB listedB B W → wpAnyG P ops w0 wv Q fuel listed A W := by
  intro fuel
  induction fuel with
  | zero =>
    intro listed A W fuelB listedB B hc hcB hBs hI hK
    have hall : ∀ i, i < ops.size → listed.getD i false = true := by
      intro i hi
      have hi' : i < listed.size := by rw [hI.s1]; exact hi
      cases hb : listed.getD i false with
      | true => rfl
      | false =>
        exfalso
        have hm : false ∈ listed.toList := by rw [← hb]; simp [Array.getD, hi']
        have := List.count_pos_iff.2 hm
        omega
    have hAB : A = B := act_ext hI.tmps hI.defers fun t => hI.same t fun i hi hl => by
      obtain ⟨o, ho, _⟩ := (hT i hi).ex
      rw [hall i (Array.getElem?_eq_some_iff.1 ho).1] at hl; cases hl
    have hLB : listedB = listed := by
      apply Array.ext (by rw [hI.s1, hI.s2])
      intro i h1 h2
      have h3 : i < ops.size := by rw [← hI.s1]; exact h2
      have := hI.both i h3
      rw [hall i h3] at this
      have h4 := hall i h3
      simp [Array.getD, h1, h2] at this h4
      rw [this, h4]
    subst hAB
    subst hLB
    have : fuelB = 0 := by omega
    subst this
    exact hK
  | succ fuel ih =>
    intro listed A W fuelB listedB B hc hcB hBs hI hK
    have hready_lt : ∀ {L : Array Bool} {i : Nat}, i ∈ Region.ready .any ops L → i < ops.size := fun hi => by
      obtain ⟨_, o, ho, _⟩ := mem_ready.1 hi
      exact (Array.getElem?_eq_some_iff.1 ho).1
    have hun0 : ∀ j, j < ops.size → listed.getD j false = false → listed0.getD j true = false := fun j hj hl => by
      rw [getD_tf (by rw [hs0]; exact hj)]
      cases hb : listed0.getD j false with
      | false => rfl
      | true => rw [hI.mono j hb] at hl; cases hl
    -- the first one of E that is still to come may come up now
    have hfirst : (∃ i ∈ E, listed.getD i false = false) → Region.ready .any ops listed ≠ [] := by
      rintro ⟨i, hiE, hil⟩ hempty
      have key : ∀ (l2 l1 : List Nat), E = l1 ++ l2 → (∀ j ∈ l1, listed.getD j false = true) → ∀ j ∈ l2, listed.getD j false = true := by
        intro l2
        induction l2 with
        | nil => intro _ _ _ j hj; cases hj
        | cons x l2 ih2 =>
          intro l1 hE hl1
          have hx : listed.getD x false = true := by
            cases hb : listed.getD x false with
            | true => rfl
            | false =>
              exfalso
              obtain ⟨o, ho, _⟩ := (hT x (by rw [hE]; simp)).ex
              have hxs := (Array.getElem?_eq_some_iff.1 ho).1
              have hr : x ∈ Region.ready .any ops listed := mem_ready.2 ⟨getD_true_of (by rw [hI.s1]; exact hxs) hb, o, ho, fun e he hbe => by
                have := takeOk_split l1 [] x l2 (by rw [← hE]; exact hord) (fun j hj => by rw [hE]; simpa using hj) o ho e he hbe
                rcases this with h | h
                · exact hI.mono _ h
                · exact hl1 _ (by simpa using h)⟩
              rw [hempty] at hr; cases hr
          intro j hj
          rcases List.mem_cons.1 hj with rfl | hj
          · exact hx
          · exact ih2 (l1 ++ [x]) (by rw [hE]; simp) (fun k hk => by
              rcases List.mem_append.1 hk with hk | hk
              · exact hl1 k hk
              · rw [List.mem_singleton.1 hk]; exact hx) j hj
      have := key E [] rfl (fun j hj => by cases hj) i hiE
      rw [hil] at this; cases this
    have hdone : (¬ ∃ i ∈ E, listed.getD i false = false) → A = B ∧ listedB = listed := fun hno => by
      have hAB : A = B := act_ext hI.tmps hI.defers fun t => hI.same t fun i hi hl => absurd ⟨i, hi, hl⟩ hno
      refine ⟨hAB, Array.ext (by rw [hI.s1, hI.s2]) fun i h1 h2 => ?_⟩
      have h3 : i < ops.size := by rw [← hI.s1]; exact h2
      have := hI.both i h3
      cases hb : listed.getD i false with
      | true =>
        rw [hb] at this
        simp [Array.getD, h1, h2] at this hb
        rw [this, hb]
      | false =>
        have hnE : i ∉ E := fun hE => hno ⟨i, hE, hb⟩
        rw [hb] at this
        simp [Array.getD, h1, h2, hnE] at this hb
        rw [this, hb]
    have hfuelB : (∃ j, j < ops.size ∧ listedB.getD j false = false) → ∃ f, fuelB = f + 1 := by
      rintro ⟨j, hj, hl⟩
      have hj' : j < listedB.size := by rw [hI.s2]; exact hj
      have hm : false ∈ listedB.toList := by rw [← hl]; simp [Array.getD, hj']
      have := List.count_pos_iff.2 hm
      exact ⟨fuelB - 1, by omega⟩
    refine ⟨fun hempty => ?_, fun i hi => ?_⟩
    · have hno : ¬ ∃ i ∈ E, listed.getD i false = false := fun h => hfirst h hempty
      obtain ⟨hAB, hLB⟩ := hdone hno
      subst hAB
      subst hLB
      cases fuelB with
      | zero => exact hK.2
      | succ f => exact hK.1 hempty
    · obtain ⟨h0, o, ho, hdeps⟩ := mem_ready.1 hi
      obtain ⟨hil, hif⟩ := getD_not h0
      have hio := hready_lt hi
      have hcs := count_set_true listed.toList i (by simpa using hil) (by simpa [Array.getD, hil] using hif)
      -- what it looks at stands
      have hlook : ∀ j ∈ E, listed.getD j false = false → j ≠ i → dstOf ops j ∉ o.looksAt ops := fun j hjE hjl hji hm => by
        obtain ⟨oj, hoj, _, hdj, _⟩ := (hT j hjE).ex
        have hjs := (Array.getElem?_eq_some_iff.1 hoj).1
        by_cases hiE : i ∈ E
        · have := (hT i hiE).looks o j oj _ ho hoj hji (hun0 j hjs hjl) hdj hm
          obtain ⟨x, hx, hxb, hxo⟩ := waitsOn_spec this.2
          have := hdeps x hx hxb
          rw [hxo, hjl] at this; cases this
        · have := ((hT j hjE).read i o ho (Ne.symm hji) (hun0 i hio hif) hiE).1 hm
          obtain ⟨x, hx, hxb, hxo⟩ := waitsOn_spec this
          have := hdeps x hx hxb
          rw [hxo, hjl] at this; cases this
      have hag : ∀ t ∈ o.looksAt ops, A.eval (.tmp t) = B.eval (.tmp t) := fun t ht => hI.same t fun j hjE hjl e => by
        by_cases hji : j = i
        · subst hji
          obtain ⟨o', ho', _, _, hself⟩ := (hT j hjE).ex
          obtain rfl : o = o' := by rw [ho] at ho'; exact Option.some.inj ho'
          exact hself (by rw [e]; exact ht)
        · exact hlook j hjE hjl hji (by rw [e]; exact ht)
      have hexec := exec_agree (fun cs b => hsel i o cs b ho) hag
      have hwant := wanted_agree (ops := ops) hI.tmps hag
      by_cases hiE : i ∈ E
      · -- one of E
        obtain ⟨o', ho', hpl, hd, hself⟩ := (hT i hiE).ex
        obtain rfl : o = o' := by rw [ho] at ho'; exact Option.some.inj ho'
        have hW := hI.ext ⟨i, hiE, hif⟩
        have hlt := (hT i hiE).lt
        have hnext : wpAnyG P ops w0 wv Q fuel (listed.setIfInBounds i true) (A.put o.dst (B.eval (.tmp (dstOf ops i)))) W := by
          refine ih _ _ _ fuelB listedB B (by simp only [Array.toList_setIfInBounds]; omega) hcB hBs ⟨by simpa using hI.s1, hI.s2, ?_, ?_, ?_, ?_, ?_, ?_, ?_⟩ hK
          · intro j hj
            by_cases hji : j = i
            · subst hji; simp [Array.getD, hil]
            · rw [getD_set_ne false (Ne.symm hji)]; exact hI.mono j hj
          · intro j hj
            by_cases hji : j = i
            · subst hji; rw [hI.both j hj]; simp [Array.getD, hil, hiE]
            · rw [getD_set_ne false (Ne.symm hji)]; exact hI.both j hj
          · rw [hd]; simp [Act.put, hI.tmps]
          · rw [hd]; simp [Act.put, hI.defers]
          · intro t ht
            rw [hd]
            by_cases e : dstOf ops i = t
            · subst e; rw [eval_put_same (by rw [hI.tmps, hBs]; exact hlt)]
            · rw [eval_put_other e]
              refine hI.same t fun j hjE hjl => ?_
              by_cases hji : j = i
              · subst hji; exact e
              · exact ht j hjE (by rw [getD_set_ne false (Ne.symm hji)]; exact hjl)
          · intro j hjE hjl oj hoj
            by_cases hji : j = i
            · subst hji; simp [Array.getD, hil] at hjl
            · rw [getD_set_ne false (Ne.symm hji)] at hjl; exact hI.pend j hjE hjl oj hoj
          · rintro ⟨j, hjE, hjl⟩
            exact hW
        have hy := hI.pend i hiE hif o ho
        unfold wpOp
        rw [ho]
        show if Region.wanted o (yielded ops A.tmps) = true then _ else _
        rw [hwant]
        rcases hy with ⟨hw, hq⟩ | ⟨hw, hv⟩
        · rw [if_pos hw]
          refine .inl ?_
          have hq1 := hq W ⟨⟨W, hW⟩, rfl⟩
          have hne := fun f args W' => plainOp_run (P := P) hpl B.eval (W := W) (W' := W') (f := f) (args := args)
          unfold Oper.quietAt at hq1
          unfold Oper.wp
          rw [hexec]
          generalize (execOp B.eval o).run P W = r at *
          cases r with
          | ok nx w' =>
            cases nx <;> simp only [Oper.quietUpon] at hq1 <;> simp only [Oper.upon]
            case value u =>
              obtain ⟨e1, e2⟩ := hq1
              rw [e1, e2]; exact ⟨fun _ => hW, hnext⟩
            case skip =>
              obtain ⟨e1, e2⟩ := hq1
              rw [e1, ← e2]; exact ⟨fun _ => hW, hnext⟩
            case enter f args => exact absurd rfl (hne f args w')
          | halt x w' => simp only [Oper.quietUpon] at hq1
        · rw [if_neg (by rw [hw]; simp)]
          rw [hv] at hnext
          exact ⟨fun _ => hW, hnext⟩
      · -- another one
        have hiB : listedB.getD i false = false := by rw [hI.both i hio, hif]; simp [hiE]
        obtain ⟨f, rfl⟩ := hfuelB ⟨i, hio, hiB⟩
        have hiBl : i < listedB.size := by rw [hI.s2]; exact hio
        have hcsB := count_set_true listedB.toList i (by simpa using hiBl) (by simpa [Array.getD, hiBl] using hiB)
        have hrB : i ∈ Region.ready .any ops listedB := mem_ready.2 ⟨getD_true_of hiBl hiB, o, ho, fun e he hbe => by
          have h1 := hdeps e he hbe
          by_cases hes : e.on < ops.size
          · rw [hI.both _ hes, h1]; rfl
          · simp [Array.getD, show ¬ e.on < listed.size by rw [hI.s1]; exact hes] at h1⟩
        have hop := hK.2 i hrB
        have hnext : ∀ (ds : List Deferred) v w', ((wv i = false → Ext w0 w') ∧ wpAnyG P ops w0 wv Q f (listedB.setIfInBounds i true) (({ B with defers := ds } : Act).put o.dst v) w') →
            ((wv i = false → Ext w0 w') ∧ wpAnyG P ops w0 wv Q fuel (listed.setIfInBounds i true) (({ A with defers := ds } : Act).put o.dst v) w') := by
          rintro ds v w' ⟨hE', hK'⟩
          have evA : ∀ t, (({ A with defers := ds } : Act).put o.dst v).eval (.tmp t) = (A.put o.dst v).eval (.tmp t) := fun t => by cases o.dst <;> rfl
          have evB : ∀ t, (({ B with defers := ds } : Act).put o.dst v).eval (.tmp t) = (B.put o.dst v).eval (.tmp t) := fun t => by cases o.dst <;> rfl
          refine ⟨hE', ih _ _ _ f _ (({ B with defers := ds } : Act).put o.dst v) (by simp only [Array.toList_setIfInBounds]; omega) (by simp only [Array.toList_setIfInBounds]; omega) ?_ ⟨by simpa using hI.s1, by simpa using hI.s2, ?_, ?_, ?_, ?_, ?_, ?_, ?_⟩ hK'⟩
          · rw [← hBs]; cases o.dst <;> simp [Act.put]
          · intro j hj
            by_cases hji : j = i
            · subst hji; simp [Array.getD, hil]
            · rw [getD_set_ne false (Ne.symm hji)]; exact hI.mono j hj
          · intro j hj
            by_cases hji : j = i
            · subst hji; simp [Array.getD, hil, hiBl]
            · rw [getD_set_ne false (Ne.symm hji), getD_set_ne false (Ne.symm hji)]; exact hI.both j hj
          · cases o.dst <;> simp [Act.put, hI.tmps]
          · cases o.dst <;> simp [Act.put]
          · intro t ht
            rw [evA, evB]
            have hold : (∀ d, o.dst = some d → d ≠ t) → (A.put o.dst v).eval (.tmp t) = (B.put o.dst v).eval (.tmp t) := fun hd => by
              have h1 : A.eval (.tmp t) = B.eval (.tmp t) := hI.same t fun j hjE hjl => by
                by_cases hji : j = i
                · exact absurd (hji ▸ hjE) hiE
                · exact ht j hjE (by rw [getD_set_ne false (Ne.symm hji)]; exact hjl)
              cases hdd : o.dst with
              | none => exact h1
              | some d => rw [eval_put_other (hd d hdd), eval_put_other (hd d hdd)]; exact h1
            cases hdd : o.dst with
            | none => rw [hdd] at hold; exact hold fun d hd => by cases hd
            | some d =>
              by_cases e : d = t
              · subst e
                by_cases hds : d < A.tmps.size
                · rw [eval_put_same hds, eval_put_same (by rw [← hI.tmps]; exact hds)]
                · have hds' : ¬ d < B.tmps.size := by rw [← hI.tmps]; exact hds
                  simp [Act.eval, Act.put, Array.getD, hds, hds']
              · rw [hdd] at hold
                exact hold fun d' hd' => by cases hd'; exact e
          · intro j hjE hjl oj hoj
            have hji : j ≠ i := fun e => hiE (e ▸ hjE)
            rw [getD_set_ne false (Ne.symm hji)] at hjl
            have hy := hI.pend j hjE hjl oj hoj
            have hjs := (Array.getElem?_eq_some_iff.1 hoj).1
            have hnl : ∀ d, o.dst = some d → d ∉ oj.looksAt ops := fun d hd hm => hiE ((hT j hjE).looks oj i o d hoj ho (Ne.symm hji) (hun0 i hio hif) hd hm).1
            have hnd : ∀ d, o.dst = some d → d ≠ dstOf ops j := fun d hd e => (hT j hjE).own i o ho (Ne.symm hji) (hun0 i hio hif) (by rw [hd, e])
            have hv : (B.put o.dst v).eval (.tmp (dstOf ops j)) = B.eval (.tmp (dstOf ops j)) := Act.eval_put fun d hd e => hnd d hd (by injection e with e; exact e.symm)
            rw [evB, hv]
            have hyd : YieldsIn P ops (fun w => ∃ x : SW w0, w = x.w) oj (B.eval (.tmp (dstOf ops j))) ({ B with defers := ds } : Act) := hy.of_same rfl rfl
            refine hyd.of_same (execOp_put oj (fun cs b => hsel j oj cs b hoj) _ o.dst v hnl) (wanted_put oj _ o.dst v hnl)
            -- oj (fun cs b => hsel j oj cs b hoj) B o.dst v hnl) (wanted_put oj B o.dst v hnl)
          · rintro ⟨j, hjE, hjl⟩
            have hji : j ≠ i := fun e => hiE (e ▸ hjE)
            rw [getD_set_ne false (Ne.symm hji)] at hjl
            refine hE' ?_
            cases hwi : wv i with
            | false => rfl
            | true =>
              exfalso
              have := ((hT j hjE).read i o ho (Ne.symm hji) (hun0 i hio hif) hiE).2 hwi
              obtain ⟨x, hx, hxb, hxo⟩ := waitsOn_spec this
              have := hdeps x hx hxb
              rw [hxo, hjl] at this; cases this
        unfold wpOp at hop ⊢
        rw [ho] at hop ⊢
        show if Region.wanted o (yielded ops A.tmps) = true then _ else _
        have hop' : if Region.wanted o (yielded ops B.tmps) = true then _ else _ := hop
        rw [hwant]
        split
        · rename_i hw
          rw [if_pos hw] at hop'
          refine .inl ?_
          have hop2 := hop'.resolve_right (by rintro ⟨_, _, _, hh⟩; exact (hh : False).elim)
          unfold Oper.wp at hop2 ⊢
          rw [hexec]
          generalize (execOp B.eval o).run P W = r at *
          cases r with
          | ok nx w' =>
            cases nx <;> simp only [Oper.upon] at hop2 ⊢
            case value u => exact hnext B.defers u w' hop2 |> fun h => by have hd := hI.defers; rw [← hd] at h; exact h
            case skip => exact hnext B.defers undef w' hop2 |> fun h => by have hd := hI.defers; rw [← hd] at h; exact h
            case defer dd => exact hnext (dd :: B.defers) undef w' hop2 |> fun h => by have hd := hI.defers; rw [← hd] at h; exact h
            case enter g args =>
              refine Calls.mono hop2 fun e W' he => ?_
              cases e with
              | returned u => exact hnext B.defers u W' he |> fun h => by have hd := hI.defers; rw [← hd] at h; exact h
              | panicked ch => exact (he : False).elim
              | outgrown => obtain ⟨_, _, hh⟩ := he; exact (hh : False).elim
            case row row args => exact Rows.mono hop2 fun u W' he => hnext B.defers u W' he |> fun h => by have hd := hI.defers; rw [← hd] at h; exact h
          | halt x w' => cases x <;> simp only [Oper.upon] at hop2 ⊢ <;> exact (hop2 : False).elim
        · rename_i hw
          rw [if_neg hw] at hop'
          exact hnext B.defers undef W hop' |> fun h => by have hd := hI.defers; rw [← hd] at h; exact h


def setAll (listed : Array Bool) (E : List Nat) : Array Bool := E.foldl (fun L i => L.setIfInBounds i true) listed
theorem setAll_size (E : List Nat) : ∀ listed : Array Bool, (setAll listed E).size = listed.size := by
  induction E with
  | nil => intro _; rfl
  | cons i E ih => intro L; rw [show setAll L (i :: E) = setAll (L.setIfInBounds i true) E from rfl, ih]; simp
theorem setAll_get (E : List Nat) : ∀ (listed : Array Bool) (j : Nat), j < listed.size → (setAll listed E).getD j false = (listed.getD j false || decide (j ∈ E)) := by
  induction E with
  | nil => intro L j _; simp [setAll]
  | cons i E ih =>
    intro L j hj
    rw [show setAll L (i :: E) = setAll (L.setIfInBounds i true) E from rfl, ih _ _ (by simpa using hj)]
    by_cases hji : j = i
    · subst hji; simp [Array.getD, hj]
    · rw [getD_set_ne false (Ne.symm hji)]; simp [hji]

def pickL (l : List Oper) : List Nat → List Oper
  | [] => []
  | i :: is => match l[i]? with
    | some o => o :: pickL l is
    | none => pickL l is

theorem pickL_map (l : List Oper) : ∀ (is : List Nat), (is.all fun i => decide (i < l.length)) = true → is.map (fun i => l.toArray[i]?) = (pickL l is).map some
  | [], _ => rfl
  | i :: is, h => by
    simp only [List.all_cons, Bool.and_eq_true, decide_eq_true_eq] at h
    have hi : l[i]? = some l[i] := by simp [h.1]
    simp only [List.map_cons, pickL, hi, List.map_cons, pickL_map l is h.2]
    simp [h.1]

/-- Plain operations are taken first. -/
theorem G.take {l : List Oper} {a : Act} {w : World} {fuel : Nat} {listed : Array Bool} (E : List Nat) (listed' : Array Bool) (fuel' : Nat) (hns : Region.noSelect l.toArray = true) (hin : (E.all fun i => decide (i < l.length)) = true)
    (hok : takeOk l.toArray listed wv E a.tmps.size [] E = true) (hsz : listed.size = l.toArray.size) (hf : fuel = listed.toList.count false) (hl' : setAll listed E = listed') (hf' : fuel' = listed'.toList.count false) (hE : Ext w0 w)
    (h : wpQuiet P l.toArray (fun w => ∃ x : SW w0, w = x.w) (fun a1 => wpAnyG P l.toArray w0 wv Q fuel' listed' a1 w) (pickL l E) a) : wpAnyG P l.toArray w0 wv Q fuel listed a w := by
  obtain ⟨a1, hK, h1, h2, h3, h4, h5⟩ := quiet_ends E [] (pickL l E) a hok (fun j hj => by simpa using hj) (pickL_map l E hin) h
  subst hl'
  refine G_run (size0 := a.tmps.size) (E := E) (listed0 := listed) (Region.noSelect_spec hns) hsz h4 hok fuel listed a w fuel' (setAll listed E) a1 hf hf' h1 ⟨hsz, by rw [setAll_size]; exact hsz, fun _ h => h, fun i hi => setAll_get E listed i (by rw [hsz]; exact hi), h1.symm, h2.symm, ?_, fun i hi _ o ho => h5 i hi o ho, fun _ => hE⟩ hK
  intro t ht
  refine (h3 t fun i hi => ht i hi ?_).symm
  have hfr := (h4 i hi).free
  exact (getD_not hfr).2

/-- One operation alone may come up. -/
theorem G.one {a : Act} {w : World} {fuel : Nat} {listed : Array Bool} (i : Nat) {o : Oper} (listed' : Array Bool) (ho : ops[i]? = some o) (hr : Region.ready .any ops listed = [i]) (hl' : listed.setIfInBounds i true = listed') (hw : Region.wanted o (yielded ops a.tmps) = true)
    (h : o.wp P a w (fun a' w' => (wv i = false → Ext w0 w') ∧ wpAnyG P ops w0 wv Q fuel listed' a' w') (NormQ Q)) : wpAnyG P ops w0 wv Q (fuel + 1) listed a w := by
  subst hl'
  refine ⟨fun e => (by rw [hr] at e; cases e), fun j hj => ?_⟩
  rw [hr] at hj
  obtain rfl := List.mem_singleton.1 hj
  unfold wpOp
  rw [ho]
  show if Region.wanted o (yielded ops a.tmps) = true then _ else _
  rw [if_pos hw]
  exact .inl h

/-- A call of a Go function. -/
theorem G.call {a : Act} {w : World} {fuel : Nat} {listed : Array Bool} (i : Nat) {o : Oper} (listed' : Array Bool) {f : FuncId} {fn : Func} {xs : Array Operand} {ats : Array TypeId} (ho : ops[i]? = some o)
    (hop : o.op = .call { callee := .value (.func f), args := xs, argTypes := ats }) (hfn : P.funcs[f]? = some fn) (hn : (fn.name == "runtime.NumGoroutine") = false) (hb : fn.body.isNone = false)
    (hr : Region.ready .any ops listed = [i]) (hl' : listed.setIfInBounds i true = listed') (hw : Region.wanted o (yielded ops a.tmps) = true) {args : Array Value} (hargs : xs.map a.eval = args)
    (h : Calls P f args w fun e w' => ∃ v, e = .returned v ∧ (wv i = false → Ext w0 w') ∧ wpAnyG P ops w0 wv Q fuel listed' (a.put o.dst v) w') : wpAnyG P ops w0 wv Q (fuel + 1) listed a w := by
  refine G.one i listed' ho hr hl' hw ?_
  unfold Oper.wp
  rw [run_callF hop hfn hn hb, hargs]
  refine Calls.mono h fun e w' he => ?_
  obtain ⟨v, rfl, h1, h2⟩ := he
  exact ⟨h1, h2⟩

/-- Two may come up: either first. -/
theorem G.two {a : Act} {w : World} {fuel : Nat} {listed : Array Bool} (i j : Nat) (hr : Region.ready .any ops listed = [i, j])
    (h1 : wpOp P ops (NormQ Q) i (fun a' w' => (wv i = false → Ext w0 w') ∧ wpAnyG P ops w0 wv Q fuel (listed.setIfInBounds i true) a' w') a w)
    (h2 : wpOp P ops (NormQ Q) j (fun a' w' => (wv j = false → Ext w0 w') ∧ wpAnyG P ops w0 wv Q fuel (listed.setIfInBounds j true) a' w') a w) : wpAnyG P ops w0 wv Q (fuel + 1) listed a w := by
  refine ⟨fun e => (by rw [hr] at e; cases e), fun k hk => ?_⟩
  rw [hr] at hk
  rcases List.mem_cons.1 hk with rfl | hk
  · exact h1
  · obtain rfl := List.mem_singleton.1 hk
    exact h2

theorem G.wp {a : Act} {w : World} {K : Act → World → Prop} (i : Nat) {o : Oper} (ho : ops[i]? = some o) (hw : Region.wanted o (yielded ops a.tmps) = true) (h : o.wp P a w K (NormQ Q)) : wpOp P ops (NormQ Q) i K a w := by
  unfold wpOp
  rw [ho]
  show if Region.wanted o (yielded ops a.tmps) = true then _ else _
  rw [if_pos hw]
  exact .inl h

theorem G.wpCall {a : Act} {w : World} {K : Act → World → Prop} (i : Nat) {o : Oper} {f : FuncId} {fn : Func} {xs : Array Operand} {ats : Array TypeId} (ho : ops[i]? = some o)
    (hop : o.op = .call { callee := .value (.func f), args := xs, argTypes := ats }) (hfn : P.funcs[f]? = some fn) (hn : (fn.name == "runtime.NumGoroutine") = false) (hb : fn.body.isNone = false)
    (hw : Region.wanted o (yielded ops a.tmps) = true) {args : Array Value} (hargs : xs.map a.eval = args)
    (h : Calls P f args w fun e w' => ∃ v, e = .returned v ∧ K (a.put o.dst v) w') : wpOp P ops (NormQ Q) i K a w := by
  refine G.wp i ho hw ?_
  unfold Oper.wp
  rw [run_callF hop hfn hn hb, hargs]
  refine Calls.mono h fun e w' he => ?_
  obtain ⟨v, rfl, h1⟩ := he
  exact h1

theorem G.hide {Q' : Exit → Act → World → Prop} {a : Act} {w : World} {o : Oper} {K0 : Act → World → Prop} (h : ∀ K : Act → World → Prop, (∀ a w, K0 a w → K a w) → o.wp P a w K Q') : o.wp P a w K0 Q' := h K0 fun _ _ h => h

theorem G.cast {a : Act} {w : World} {fuel : Nat} {listed : Array Bool} (listed' : Array Bool) (hl : listed = listed') (h : wpAnyG P ops w0 wv Q fuel listed' a w) : wpAnyG P ops w0 wv Q fuel listed a w := by rw [hl]; exact h

theorem G.done {a : Act} {w : World} (fuel : Nat) {listed : Array Bool} (hr : Region.ready .any ops listed = []) (h : Q a w) : wpAnyG P ops w0 wv Q fuel listed a w := by
  cases fuel with
  | zero => exact ⟨hr, h⟩
  | succ f => exact ⟨fun _ => h, fun i hi => by rw [hr] at hi; cases hi⟩

/-- The operations that are left come up one after the other, and are let off. -/
def chainOk (ops : Array Oper) (wv : Nat → Bool) : Array Bool → List Nat → Bool
  | listed, [] => Region.ready .any ops listed == []
  | listed, i :: is => (Region.ready .any ops listed == [i]) && wv i && chainOk ops wv (listed.setIfInBounds i true) is

theorem G.list {l : List Oper} : ∀ (is : List Nat) (fuel : Nat) (listed : Array Bool) (a : Act) (w : World), fuel = is.length → (is.all fun i => decide (i < l.length)) = true → chainOk l.toArray wv listed is = true →
    wpList P l.toArray (NormQ Q) (pickL l is) a w → wpAnyG P l.toArray w0 wv Q fuel listed a w
  | [], fuel, listed, a, w, hf, _, hc, h => G.done fuel (by simpa [chainOk] using hc) h
  | i :: is, fuel, listed, a, w, hf, hin, hc, h => by
    simp only [List.all_cons, Bool.and_eq_true, decide_eq_true_eq] at hin
    simp only [chainOk, Bool.and_eq_true, beq_iff_eq] at hc
    obtain ⟨⟨hr, hwv⟩, hc⟩ := hc
    have hi : l[i]? = some l[i] := by simp [hin.1]
    have ho : l.toArray[i]? = some l[i] := by simp [hin.1]
    simp only [pickL, hi] at h
    subst hf
    have hK : ∀ a' w', wpList P l.toArray (NormQ Q) (pickL l is) a' w' → (wv i = false → Ext w0 w') ∧ wpAnyG P l.toArray w0 wv Q is.length (listed.setIfInBounds i true) a' w' := fun a' w' h' =>
      ⟨fun e => (by rw [hwv] at e; cases e), G.list is is.length _ a' w' rfl hin.2 hc h'⟩
    refine ⟨fun e => (by rw [hr] at e; cases e), fun j hj => ?_⟩
    rw [hr] at hj
    obtain rfl := List.mem_singleton.1 hj
    unfold wpList at h
    unfold wpOp
    rw [ho]
    show if Region.wanted l[j] (yielded l.toArray a.tmps) = true then _ else _
    split
    · rename_i hw; rw [if_pos hw] at h; exact h.imp (Oper.wp_mono hK) id
    · rename_i hw; rw [if_neg hw] at h; exact hK _ _ h

end
end Go.Proofs.Ytjmkoelmiehdjaa.L
