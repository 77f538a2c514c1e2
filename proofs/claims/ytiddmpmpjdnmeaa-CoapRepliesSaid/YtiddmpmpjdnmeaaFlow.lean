/-
  A region that draws its order, proved operation by operation over any program: each operation is run in whatever world the others may have left, from what it depends on alone.
-/
import Derived.Test.YtiddmpmpjdnmeaaLib
namespace Go.Proofs.Ytiddmpmpjdnmeaa.L
open Go.RowKit
set_option linter.unusedVariables false
set_option linter.unusedSimpArgs false

abbrev Pred := Value → World → Prop
def NoQ : Exit → Act → World → Prop := fun _ _ _ => False

def FHas (done : List (Tmp × Pred)) (ts : List Tmp) (A : Act) (W : World) : Prop := ∀ p ∈ done, p.1 ∈ ts → p.2 (A.eval (.tmp p.1)) W
def FOut (done : List (Tmp × Pred)) (ts : List Tmp) (a A : Act) : Prop := A.tmps.size = a.tmps.size ∧ ∀ t ∈ ts, t ∉ done.map (·.1) → A.eval (.tmp t) = a.eval (.tmp t)

def FStep (P : Program) (ops : Array Oper) (o : Oper) (A : Act) (W : World) (post : Value → World → Prop) : Prop :=
  if Region.wanted o (yielded ops A.tmps) then o.wp P A W (fun A' W' => ∃ v, A' = A.put o.dst v ∧ post v W') NoQ else post undef W

def Stable (φ : Pred) : Prop := ∀ v W W', φ v W → Ext W W' → φ v W'
theorem stable_eq (c : Value) : Stable (fun v _ => v = c) := fun _ _ _ h _ => h

def FlowGo (P : Program) (ops : Array Oper) (w0 : World) (a : Act) (K : List (Tmp × Pred) → Prop) : List (Tmp × Pred) → List Oper → Prop
  | done, [] => K done
  | done, o :: rest => ∃ (d : Tmp) (φ : Pred), o.dst = some d ∧ Stable φ ∧
      (∀ A W, Ext w0 W → FHas done (o.looksAt ops) A W → FOut done (o.looksAt ops) a A → FStep P ops o A W (fun v W' => Ext W W' ∧ φ v W')) ∧
      FlowGo P ops w0 a K ((d, φ) :: done) rest

def putAll (a : Act) (f : Tmp → Value) : List Tmp → Act
  | [] => a
  | t :: ts => (putAll a f ts).put (some t) (f t)

/-- Operation number i of the region: whoever writes a temporary that it looks at stands before it, and it waits for it; no two of the first n write one temporary; from n on each waits for all before it. -/
def flowOkAt (ops : Array Oper) (n i : Nat) (o : Oper) : Bool :=
  let waits := fun j => o.after.any fun e => Region.binds .any e && e.on == j
  (match o.op with | .select .. => false | _ => true) && (o.after.all fun e => !Region.binds .any e || decide (e.on < i)) &&
  if i < n then
    o.dst.isSome &&
    (List.range n).all (fun j => j == i || ((ops[j]?).all fun oj => (match oj.dst with | some d => o.dst != some d && (!(o.looksAt ops).contains d || (decide (j < i) && waits j)) | none => true)))
  else (List.range i).all waits

def flowOk (ops : Array Oper) (n : Nat) : Bool := decide (n ≤ ops.size) && (List.range ops.size).all fun i => (ops[i]?).all fun o => flowOkAt ops n i o

section
variable {P : Program} {ops : Array Oper} {Q : Exit → Act → World → Prop} {a : Act} {w0 : World}

theorem wp_of_noQ {o : Oper} {A : Act} {W : World} {K : Act → World → Prop} (h : o.wp P A W K NoQ) : o.wp P A W K Q := by
  unfold Oper.wp at *
  generalize (execOp A.eval o).run P W = r at *
  cases r with
  | ok n w' =>
    cases n <;> simp only [Oper.upon] at h ⊢ <;> first
      | exact h
      | (refine Calls.mono h fun e w'' he => ?_
         cases e with
         | returned v => exact he
         | panicked c => exact (he : False).elim
         | outgrown => obtain ⟨_, _, hh⟩ := he; exact (hh : False).elim)
  | halt x w' => cases x <;> simp only [Oper.upon] at h ⊢ <;> first | exact h | exact (h : False).elim

/-- What the operations hand on: to each its predicate. -/
def FlowAll (P : Program) (ops : Array Oper) (w0 : World) (a : Act) (n : Nat) (Φ : Nat → Pred) (D : Nat → Tmp) : Prop :=
  ∀ i, i < n → ∀ o, ops[i]? = some o → o.dst = some (D i) ∧ Stable (Φ i) ∧
    ∀ A W, Ext w0 W → A.tmps.size = a.tmps.size → (∀ j, j < i → D j ∈ o.looksAt ops → Φ j (A.eval (.tmp (D j))) W) → (∀ t ∈ o.looksAt ops, (∀ j, j < i → D j ≠ t) → A.eval (.tmp t) = a.eval (.tmp t)) →
      FStep P ops o A W (fun v W' => Ext W W' ∧ Φ i v W')

theorem flowAll_of_go {K : List (Tmp × Pred) → Prop} : ∀ (l : List Oper) (k : Nat) (done : List (Tmp × Pred)) (Φ : Nat → Pred) (D : Nat → Tmp),
    done = ((List.range k).map fun i => (D i, Φ i)).reverse → (∀ j, l[j]? = if j < l.length then ops[k + j]? else none) → FlowGo P ops w0 a K done l →
    ∃ (Φ' : Nat → Pred) (D' : Nat → Tmp), (∀ i, i < k → Φ' i = Φ i ∧ D' i = D i) ∧ K ((List.range (k + l.length)).map fun i => (D' i, Φ' i)).reverse ∧
      ∀ i, k ≤ i → i < k + l.length → ∀ o, ops[i]? = some o → o.dst = some (D' i) ∧ Stable (Φ' i) ∧
        ∀ A W, Ext w0 W → A.tmps.size = a.tmps.size → (∀ j, j < i → D' j ∈ o.looksAt ops → Φ' j (A.eval (.tmp (D' j))) W) → (∀ t ∈ o.looksAt ops, (∀ j, j < i → D' j ≠ t) → A.eval (.tmp t) = a.eval (.tmp t)) →
          FStep P ops o A W (fun v W' => Ext W W' ∧ Φ' i v W') := by
  intro l
  induction l with
  | nil =>
    intro k done Φ D hd _ h
    exact ⟨Φ, D, fun _ _ => ⟨rfl, rfl⟩, by simpa [FlowGo, hd] using h, fun i h1 h2 => by simp at h2; omega⟩
  | cons o rest ih =>
    intro k done Φ D hd hl h
    obtain ⟨d, φ, ho, hst, hstep, hrest⟩ := h
    have h0 : ops[k]? = some o := by have := hl 0; simpa using this.symm
    have hd' : (d, φ) :: done = ((List.range (k + 1)).map fun i => ((fun i => if i = k then d else D i) i, (fun i => if i = k then φ else Φ i) i)).reverse := by
      rw [List.range_succ, List.map_append, List.reverse_append]
      simp only [List.map_cons, List.map_nil, List.reverse_singleton, if_true, List.singleton_append]
      rw [hd]
      congr 2
      apply List.map_congr_left
      intro i hi
      have : i ≠ k := by have := List.mem_range.1 hi; omega
      simp [this]
    obtain ⟨Φ', D', hsame, hK, hall⟩ := ih (k + 1) _ _ _ hd' (fun j => by have := hl (j + 1); simpa [Nat.add_assoc, Nat.add_comm 1 j] using this) hrest
    have hk := hsame k (by omega)
    simp only [if_true] at hk
    have hlt : ∀ i, i < k → Φ' i = Φ i ∧ D' i = D i := fun i hi => by
      have := hsame i (by omega)
      have hne : i ≠ k := by omega
      simpa [hne] using this
    refine ⟨Φ', D', hlt, by rw [show k + (o :: rest).length = k + 1 + rest.length by simp; omega]; exact hK, fun i h1 h2 o' ho' => ?_⟩
    by_cases hik : i = k
    · subst hik
      obtain rfl : o = o' := by rw [h0] at ho'; exact Option.some.inj ho'
      rw [hk.1, hk.2]
      refine ⟨ho, hst, fun A W hW hsz hF hO => hstep A W hW ?_ ⟨hsz, ?_⟩⟩
      · intro p hp hpt
        rw [hd, List.mem_reverse, List.mem_map] at hp
        obtain ⟨j, hj, rfl⟩ := hp
        have hji := List.mem_range.1 hj
        have := hF j hji
        rw [(hlt j hji).1, (hlt j hji).2] at this
        exact this hpt
      · intro t ht htd
        refine hO t ht fun j hj => ?_
        rw [(hlt j hj).2]
        intro e
        apply htd
        rw [hd, List.mem_map]
        exact ⟨(D j, Φ j), by rw [List.mem_reverse, List.mem_map]; exact ⟨j, List.mem_range.2 hj, rfl⟩, e⟩
    · exact hall i (by omega) (by simp at h2; omega) o' ho'


theorem any_mem {α : Type} {xs : Array α} {p : α → Bool} (h : xs.any p = true) : ∃ x ∈ xs, p x = true := by
  rw [← Array.any_toList] at h
  obtain ⟨x, hx, hp⟩ := List.any_eq_true.1 h
  exact ⟨x, by simpa using hx, hp⟩

theorem flowOk_at {n : Nat} (h : flowOk ops n = true) {i : Nat} {o : Oper} (ho : ops[i]? = some o) : flowOkAt ops n i o = true := by
  simp only [flowOk, Bool.and_eq_true, List.all_eq_true, List.mem_range] at h
  have hi : i < ops.size := (Array.getElem?_eq_some_iff.1 ho).1
  have := h.2 i hi
  rw [ho] at this
  simpa using this

theorem flow_back {n i : Nat} {o : Oper} (h : flowOkAt ops n i o = true) : ∀ e ∈ o.after, Region.binds .any e = true → e.on < i := by
  intro e he hb
  simp only [flowOkAt, Bool.and_eq_true] at h
  have := Array.all_eq_true_iff_forall_mem.1 h.1.2 e he
  simpa [hb] using this

theorem flow_pair {n i j : Nat} {o oj : Oper} {d e : Tmp} (h : flowOkAt ops n i o = true) (hi : i < n) (hj : j < n) (hne : j ≠ i) (ho : ops[j]? = some oj) (hd : oj.dst = some d) (he : o.dst = some e) :
    d ≠ e ∧ (d ∈ o.looksAt ops → j < i ∧ ∃ x ∈ o.after, Region.binds .any x = true ∧ x.on = j) := by
  simp only [flowOkAt, Bool.and_eq_true, if_pos hi, List.all_eq_true, List.mem_range] at h
  have := h.2.2 j hj
  rw [ho] at this
  simp only [hd, he, Option.all_some, Bool.or_eq_true, beq_iff_eq, hne, false_or, Bool.and_eq_true, bne_iff_ne, ne_eq, Option.some.injEq, Bool.not_eq_true', List.contains_eq_mem, decide_eq_true_eq, decide_eq_false_iff_not] at this
  refine ⟨fun e' => this.1 e'.symm, fun hm => ?_⟩
  rcases this.2 with h1 | ⟨h1, h2⟩
  · exact absurd hm h1
  · obtain ⟨x, hx, hx2⟩ := any_mem h2
    simp only [Bool.and_eq_true, beq_iff_eq] at hx2
    exact ⟨h1, x, hx, hx2.1, hx2.2⟩

theorem flow_tail {n i : Nat} {o : Oper} (h : flowOkAt ops n i o = true) (hi : n ≤ i) : ∀ j, j < i → ∃ x ∈ o.after, Region.binds .any x = true ∧ x.on = j := by
  intro j hj
  simp only [flowOkAt, Bool.and_eq_true, if_neg (show ¬ i < n by omega), List.all_eq_true, List.mem_range] at h
  obtain ⟨x, hx, hx2⟩ := any_mem (h.2 j hj)
  simp only [Bool.and_eq_true, beq_iff_eq] at hx2
  exact ⟨x, hx, hx2.1, hx2.2⟩

theorem wpAny_tail {n : Nat} (hok : flowOk ops n = true) : ∀ (fuel m : Nat) (listed : Array Bool) (A : Act) (W : World), m + fuel = ops.size → n ≤ m → listed.size = ops.size →
    (∀ i, i < ops.size → listed.getD i false = decide (i < m)) → wpList P ops Q (ops.toList.drop m) A W → wpAny P .any ops Q fuel listed A W := by
  intro fuel
  induction fuel with
  | zero =>
    intro m listed A W hm hn hs hl h
    have hd : ops.toList.drop m = [] := List.drop_eq_nil_of_le (by simp; omega)
    rw [hd] at h
    refine ⟨?_, h⟩
    rw [List.eq_nil_iff_forall_not_mem]
    intro i hi
    obtain ⟨h0, o, ho, _⟩ := mem_ready.1 hi
    have hi' : i < ops.size := (Array.getElem?_eq_some_iff.1 ho).1
    have := hl i hi'
    have hi2 : i < listed.size := by omega
    simp [Array.getD, hi2] at h0 this
    rw [h0] at this
    simp at this
    omega
  | succ fuel ih =>
    intro m listed A W hm hn hs hl h
    have hlt : m < ops.size := by omega
    have hd : ops.toList.drop m = ops[m] :: ops.toList.drop (m + 1) := by
      rw [List.drop_eq_getElem_cons (by simpa using hlt)]; simp
    rw [hd] at h
    have hom : ops[m]? = some ops[m] := by simp [hlt]
    have hsz : m < listed.size := by omega
    have hmr : m ∈ Region.ready .any ops listed := mem_ready.2 ⟨by
        have := hl m hlt
        simp [Array.getD, hsz] at this ⊢
        exact this, ops[m], hom, fun e he hb => by
        have h1 := flow_back (flowOk_at hok hom) e he hb
        have := hl e.on (by omega)
        rw [this]; simpa using h1⟩
    refine ⟨fun e => (by rw [e] at hmr; cases hmr), fun i hi => ?_⟩
    have him : i = m := by
      obtain ⟨h0, o, ho, hall⟩ := mem_ready.1 hi
      have hi' : i < ops.size := (Array.getElem?_eq_some_iff.1 ho).1
      have hi2 : i < listed.size := by omega
      have hge : m ≤ i := by
        have := hl i hi'
        simp [Array.getD, hi2] at h0 this
        rw [h0] at this
        simpa using this
      rcases Nat.eq_or_lt_of_le hge with e | hgt
      · exact e.symm
      · obtain ⟨x, hx, hxb, hxo⟩ := flow_tail (flowOk_at hok ho) (by omega) m hgt
        have := hall x hx hxb
        rw [hxo, hl m hlt] at this
        simp at this
    subst him
    unfold wpOp
    rw [hom]
    have hK : ∀ A' W', wpList P ops Q (ops.toList.drop (i + 1)) A' W' → wpAny P .any ops Q fuel (listed.setIfInBounds i true) A' W' := fun A' W' h' =>
      ih (i + 1) _ A' W' (by omega) (by omega) (by simpa using hs) (fun j hj => by
        by_cases hji : j = i
        · subst hji; simp [Array.getD, hsz]
        · rw [getD_set_ne false (Ne.symm hji), hl j hj]
          simp; omega) h'
    simp only [wpList] at h ⊢
    split
    · rename_i hw; rw [if_pos hw] at h; exact h.imp (Oper.wp_mono hK) id
    · rename_i hw; rw [if_neg hw] at h; exact hK _ _ h


theorem eval_put_same {A : Act} {d : Tmp} {v : Value} (h : d < A.tmps.size) : (A.put (some d) v).eval (.tmp d) = v := by
  simp [Act.eval, Act.put, h]
theorem eval_put_other {A : Act} {d t : Tmp} {v : Value} (h : d ≠ t) : (A.put (some d) v).eval (.tmp t) = A.eval (.tmp t) :=
  Act.eval_put fun d' hd e => h (by cases hd; injection e with e; exact e.symm)

theorem count_set_true (l : List Bool) (i : Nat) (h : i < l.length) (hf : l[i] = false) : (l.set i true).count false + 1 = l.count false := by
  rw [List.count_set h, hf]
  have : 0 < l.count false := List.count_pos_iff.2 (hf ▸ List.getElem_mem h)
  simp; omega

theorem least {p : Nat → Prop} (h : ∃ i, p i) : ∃ i, p i ∧ ∀ j, j < i → ¬ p j := by
  obtain ⟨i, hi⟩ := h
  induction i using Nat.strongRecOn with
  | _ i ih =>
    by_cases hj : ∃ j, j < i ∧ p j
    · obtain ⟨j, h1, h2⟩ := hj
      exact ih j h1 h2
    · exact ⟨i, hi, fun j h1 h2 => hj ⟨j, h1, h2⟩⟩

/-- What stands between two operations of the region. -/
structure FInv (ops : Array Oper) (w0 : World) (a : Act) (n : Nat) (Φ : Nat → Pred) (D : Nat → Tmp) (listed : Array Bool) (A : Act) (W : World) : Prop where
  size : listed.size = ops.size
  late : ∀ i, n ≤ i → listed.getD i false = false
  ext : Ext w0 W
  tmps : A.tmps.size = a.tmps.size
  defers : A.defers = a.defers
  has : ∀ i, i < n → listed.getD i false = true → Φ i (A.eval (.tmp (D i))) W
  out : ∀ t, (∀ i, i < n → listed.getD i false = true → D i ≠ t) → A.eval (.tmp t) = a.eval (.tmp t)

theorem getD_tf {listed : Array Bool} {i : Nat} (h : i < listed.size) : listed.getD i true = listed.getD i false := by simp [Array.getD, h]

theorem wpAny_flow {n : Nat} {Φ : Nat → Pred} {D : Nat → Tmp} (hok : flowOk ops n = true) (hn : n ≤ ops.size) (hD : ∀ i, i < n → D i < a.tmps.size) (hall : FlowAll P ops w0 a n Φ D)
    (hend : ∀ A W, Ext w0 W → A.tmps.size = a.tmps.size → A.defers = a.defers → (∀ i, i < n → Φ i (A.eval (.tmp (D i))) W) → (∀ t, (∀ i, i < n → D i ≠ t) → A.eval (.tmp t) = a.eval (.tmp t)) →
      wpList P ops Q (ops.toList.drop n) A W) :
    ∀ (fuel : Nat) (listed : Array Bool) (A : Act) (W : World), fuel = listed.toList.count false → FInv ops w0 a n Φ D listed A W → wpAny P .any ops Q fuel listed A W := by
  intro fuel
  induction fuel with
  | zero =>
    intro listed A W hc hI
    have hlt : ∀ i, i < ops.size → listed.getD i false = true := by
      intro i hi
      have hi' : i < listed.size := by rw [hI.size]; exact hi
      cases hb : listed.getD i false with
      | true => rfl
      | false =>
        exfalso
        have hm : false ∈ listed.toList := by
          rw [← hb]; simp [Array.getD, hi']
        have := List.count_pos_iff.2 hm
        omega
    have hnn : n = ops.size := by
      rcases Nat.lt_or_ge n ops.size with h | h
      · have := hI.late n (Nat.le_refl _); rw [hlt n h] at this; cases this
      · omega
    have hw := hend A W hI.ext hI.tmps hI.defers (fun i hi => hI.has i hi (hlt i (by omega))) (fun t ht => hI.out t fun i hi _ => ht i hi)
    exact wpAny_tail hok 0 n listed A W (by omega) (Nat.le_refl _) hI.size (fun i hi => by rw [hlt i hi]; simp; omega) hw
  | succ fuel ih =>
    intro listed A W hc hI
    by_cases hdone : ∀ i, i < n → listed.getD i false = true
    · have hw := hend A W hI.ext hI.tmps hI.defers (fun i hi => hI.has i hi (hdone i hi)) (fun t ht => hI.out t fun i hi _ => ht i hi)
      refine wpAny_tail hok (fuel + 1) n listed A W ?_ (Nat.le_refl _) hI.size (fun i hi => ?_) hw
      · have hl : listed.toList = List.replicate n true ++ List.replicate (ops.size - n) false := by
          apply List.ext_getElem
          · simp [hI.size]; omega
          · intro i h1 h2
            have h1' : i < listed.size := by simpa using h1
            have e : listed.toList[i] = listed.getD i false := by simp [Array.getD, h1']
            rw [e]
            by_cases hin : i < n
            · rw [hdone i hin, List.getElem_append_left (by simpa using hin)]; simp
            · rw [hI.late i (by omega), List.getElem_append_right (by simp; omega)]; simp
        rw [hl, List.count_append] at hc
        simp [List.count_replicate] at hc
        omega
      · by_cases hin : i < n
        · rw [hdone i hin]; simp [hin]
        · rw [hI.late i (by omega)]; simp [hin]
    · have hne : ∃ i, i ∈ Region.ready .any ops listed := by
        have hex : ∃ i, i < n ∧ listed.getD i false = false := by
          refine Classical.byContradiction fun hno => hdone fun i hi => ?_
          cases hb : listed.getD i false with
          | true => rfl
          | false => exact absurd ⟨i, hi, hb⟩ hno
        obtain ⟨i, ⟨hi, hf⟩, hmin⟩ : ∃ i, (i < n ∧ listed.getD i false = false) ∧ ∀ j, j < i → ¬ (j < n ∧ listed.getD j false = false) := by
          obtain ⟨i, h⟩ := hex
          exact least ⟨i, h⟩
        have hio : ops[i]? = some ops[i] := by simp [show i < ops.size by omega]
        refine ⟨i, mem_ready.2 ⟨by rw [getD_tf (by rw [hI.size]; omega)]; exact hf, _, hio, fun e he hb => ?_⟩⟩
        have := flow_back (flowOk_at hok hio) e he hb
        cases hb2 : listed.getD e.on false with
        | true => rfl
        | false => exact absurd ⟨by omega, hb2⟩ (hmin e.on this)
      refine ⟨fun e => (by obtain ⟨i, hi⟩ := hne; rw [e] at hi; cases hi), fun i hi => ?_⟩
      obtain ⟨h0, o, ho, hdeps⟩ := mem_ready.1 hi
      have hio : i < ops.size := (Array.getElem?_eq_some_iff.1 ho).1
      have hf : listed.getD i false = false := by rw [← getD_tf (by rw [hI.size]; exact hio)]; exact h0
      have hin : i < n := by
        refine Classical.byContradiction fun hge => hdone fun j hj => ?_
        obtain ⟨x, hx, hxb, hxo⟩ := flow_tail (flowOk_at hok ho) (by omega) j (by omega)
        rw [← hxo]; exact hdeps x hx hxb
      obtain ⟨hdst, hst, hstep⟩ := hall i hin o ho
      have hpair : ∀ j, j < n → j ≠ i → D j ≠ D i ∧ (D j ∈ o.looksAt ops → j < i ∧ listed.getD j false = true) := by
        intro j hj hji
        have hoj : ops[j]? = some ops[j] := by simp [show j < ops.size by omega]
        obtain ⟨h1, h2⟩ := flow_pair (flowOk_at hok ho) hin hj hji hoj (hall j hj _ hoj).1 hdst
        refine ⟨h1, fun hm => ?_⟩
        obtain ⟨h3, x, hx, hxb, hxo⟩ := h2 hm
        exact ⟨h3, by rw [← hxo]; exact hdeps x hx hxb⟩
      have hs := hstep A W hI.ext hI.tmps (fun j hj hm => hI.has j (by omega) ((hpair j (by omega) (by omega)).2 hm).2) (fun t ht htd => hI.out t fun j hj hlj e => by
        subst e
        by_cases hji : j = i
        · subst hji; rw [hf] at hlj; cases hlj
        · exact htd j ((hpair j hj hji).2 ht).1 rfl)
      have hnext : ∀ v W', Ext W W' ∧ Φ i v W' → wpAny P .any ops Q fuel (listed.setIfInBounds i true) (A.put o.dst v) W' := by
        intro v W' ⟨hE, hφ⟩
        have hil : i < listed.size := by rw [hI.size]; exact hio
        have hDi : D i < A.tmps.size := by rw [hI.tmps]; exact hD i hin
        refine ih _ _ _ ?_ ⟨by simpa using hI.size, ?_, hI.ext.trans hE, ?_, ?_, ?_, ?_⟩
        · have hcs := count_set_true listed.toList i (by simpa using hil) (by simpa [Array.getD, hil] using hf)
          simp only [Array.toList_setIfInBounds]
          omega
        · intro j hj
          rw [getD_set_ne false (show i ≠ j by omega)]; exact hI.late j hj
        · rw [hdst]; simp [Act.put, hI.tmps]
        · rw [hdst]; simp [Act.put, hI.defers]
        · intro j hj hlj
          rw [hdst]
          by_cases hji : j = i
          · subst hji; rw [eval_put_same hDi]; exact hφ
          · rw [getD_set_ne false (Ne.symm hji)] at hlj
            rw [eval_put_other (Ne.symm (hpair j hj hji).1)]
            have hoj : ops[j]? = some ops[j] := by simp [show j < ops.size by omega]
            exact (hall j hj _ hoj).2.1 _ _ _ (hI.has j hj hlj) hE
        · intro t ht
          rw [hdst]
          have hti : D i ≠ t := ht i hin (by simp [Array.getD, hil])
          rw [eval_put_other hti]
          refine hI.out t fun j hj hlj => ht j hj ?_
          by_cases hji : j = i
          · subst hji; simp [Array.getD, hil]
          · rw [getD_set_ne false (Ne.symm hji)]; exact hlj
      unfold wpOp
      rw [ho]
      unfold FStep at hs
      show if Region.wanted o (yielded ops A.tmps) = true then _ else _
      split
      · rename_i hw
        rw [if_pos hw] at hs
        refine .inl (Oper.wp_mono ?_ (wp_of_noQ hs))
        rintro A' W' ⟨v, rfl, hp⟩
        exact hnext v W' hp
      · rename_i hw
        rw [if_neg hw] at hs
        exact hnext _ _ hs


theorem putAll_size (a : Act) (f : Tmp → Value) (ts : List Tmp) : (putAll a f ts).tmps.size = a.tmps.size := by
  induction ts with
  | nil => rfl
  | cons t ts ih => simp [putAll, Act.put, ih]
theorem putAll_defers (a : Act) (f : Tmp → Value) (ts : List Tmp) : (putAll a f ts).defers = a.defers := by
  induction ts with
  | nil => rfl
  | cons t ts ih => simp [putAll, Act.put, ih]
theorem putAll_eval (a : Act) (f : Tmp → Value) (ts : List Tmp) (t : Tmp) : (putAll a f ts).eval (.tmp t) = if t ∈ ts ∧ t < a.tmps.size then f t else a.eval (.tmp t) := by
  induction ts with
  | nil => simp [putAll]
  | cons u ts ih =>
    by_cases h : u = t
    · subst h
      by_cases hs : u < a.tmps.size
      · rw [putAll, eval_put_same (by rw [putAll_size]; exact hs)]; simp [hs]
      · rw [if_neg (by simp [hs])]
        have h1 : (putAll a f (u :: ts)).tmps.size = a.tmps.size := putAll_size _ _ _
        simp [Act.eval, Array.getD, h1, hs]
    · rw [putAll, eval_put_other h, ih]
      simp [Ne.symm h]

theorem act_ext {A B : Act} (h1 : A.tmps.size = B.tmps.size) (h2 : A.defers = B.defers) (h : ∀ t, A.eval (.tmp t) = B.eval (.tmp t)) : A = B := by
  obtain ⟨x, d⟩ := A
  obtain ⟨y, e⟩ := B
  simp only at h1 h2
  subst h2
  congr 1
  apply Array.ext h1
  intro i hi hj
  have := h i
  simpa [Act.eval, Array.getD, hi, hj] using this

/-- A region that draws its order, its first n operations each run in whatever world the others may have left, the others one after the other. -/
theorem wp_region_flow {id : Nat} {l : List Oper} {a : Act} {w0 : World} (n : Nat) (hm : P.follows .mixedOrders = true) (hok : flowOk l.toArray n = true)
    (hs : (l.take n).all (fun o => o.dst.all fun d => decide (d < a.tmps.size)) = true)
    (h : FlowGo P l.toArray w0.drew a (fun done => ∀ (f : Tmp → Value) W, Ext w0.drew W → (∀ p ∈ done, p.2 (f p.1) W) → wpList P l.toArray Q (l.drop n) (putAll a f (done.map (·.1))) W) [] (l.take n)) :
    (Code.region id l.toArray true).wp P Q a w0 := by
  have hn : n ≤ l.length := by
    simp only [flowOk, Bool.and_eq_true, decide_eq_true_eq] at hok
    simpa using hok.1
  have hlen : (l.take n).length = n := by simp [hn]
  obtain ⟨Φ, D, _, hK, hall⟩ := flowAll_of_go (l.take n) 0 [] (fun _ _ _ => True) (fun _ => 0) rfl (fun j => by
    rw [hlen]
    by_cases hj : j < n
    · simp [hj]
    · rw [if_neg hj]; exact List.getElem?_eq_none (by rw [hlen]; omega)) h
  rw [Nat.zero_add, hlen] at hK
  have hD : ∀ i, i < n → D i < a.tmps.size := by
    intro i hi
    have hio : l.toArray[i]? = some l[i] := by simp [show i < l.length by omega]
    have h1 := (hall i (Nat.zero_le _) (by rw [hlen]; omega) _ hio).1
    have := List.all_eq_true.1 hs l[i] (List.mem_take_iff_getElem.2 ⟨i, by omega, rfl⟩)
    rw [h1] at this
    simpa using this
  refine wp_region_any hm (wpAny_flow (n := n) (Φ := Φ) (D := D) (w0 := w0.drew) (a := a) hok (by simpa using hn) hD
    (fun i hi o ho => hall i (Nat.zero_le _) (by rw [hlen]; omega) o ho) ?_ _ _ _ _ ?_ ⟨by simp, ?_, Mods.refl _ _, rfl, rfl, ?_, fun _ _ => rfl⟩)
  · intro A W hE hsz hdf hhas hout
    have hw := hK (fun t => A.eval (.tmp t)) W hE (fun p hp => by
      rw [List.mem_reverse, List.mem_map] at hp
      obtain ⟨i, hi, rfl⟩ := hp
      exact hhas i (List.mem_range.1 hi))
    have hA : putAll a (fun t => A.eval (.tmp t)) ((((List.range n).map fun i => (D i, Φ i)).reverse).map (·.1)) = A := by
      refine act_ext (by rw [putAll_size, hsz]) (by rw [putAll_defers, hdf]) fun t => ?_
      rw [putAll_eval]
      split
      · rfl
      · rename_i hno
        by_cases ht : t < a.tmps.size
        · refine (hout t fun i hi e => hno ⟨?_, ht⟩).symm
          rw [List.mem_map]
          exact ⟨(D i, Φ i), by rw [List.mem_reverse, List.mem_map]; exact ⟨i, List.mem_range.2 hi, rfl⟩, e⟩
        · simp [Act.eval, Array.getD, ht, hsz]
    rw [hA] at hw
    simpa using hw
  · simp
  · intro i hi
    by_cases h : i < l.length <;> simp [Array.getD, h]
  · intro i hi hl
    by_cases h : i < l.length <;> simp [Array.getD, h] at hl


section
variable {K : List (Tmp × Pred) → Prop} {done : List (Tmp × Pred)} {o : Oper} {rest : List Oper} {d : Tmp}

theorem fstep_plain {A : Act} {W : World} {post : Value → World → Prop} (hg : o.guard = none) (h : o.wp P A W (fun A' W' => ∃ v, A' = A.put o.dst v ∧ post v W') NoQ) : FStep P ops o A W post := by
  unfold FStep; rw [if_pos (by simp [Region.wanted, hg])]; exact h

theorem yielded_of_eval {A : Act} {j : Nat} {t : Tmp} {b : Bool} (ht : ((ops[j]?).bind (·.dst)) = some t) (h : A.eval (.tmp t) = .bool b) : yielded ops A.tmps j = some b := by
  unfold yielded
  rw [ht]
  by_cases hs : t < A.tmps.size
  · have : A.tmps[t]? = some (.bool b) := by simpa [Act.eval, Array.getD, hs] using h
    simp [this]
  · simp [Act.eval, Array.getD, hs, undef] at h

theorem fstep_run {A : Act} {W : World} {post : Value → World → Prop} {v : Value} {W' : World} (hg : o.guard = none) (hr : (execOp A.eval o).run P W = .ok (.value v) W') (h : post v W') : FStep P ops o A W post :=
  fstep_plain hg (by unfold Oper.wp; rw [hr]; exact ⟨v, rfl, h⟩)

theorem fstep_enter {A : Act} {W : World} {post : Value → World → Prop} {f : FuncId} {args : Array Value} (hg : o.guard = none) (hr : (execOp A.eval o).run P W = .ok (.enter f args) W)
    (h : Calls P f args W fun e W' => ∃ v, e = .returned v ∧ post v W') : FStep P ops o A W post :=
  fstep_plain hg (by
    unfold Oper.wp; rw [hr]
    refine Calls.mono h fun e W' he => ?_
    obtain ⟨v, rfl, hp⟩ := he
    exact ⟨v, rfl, hp⟩)

end

/-- A world that other operations of the region may have left. -/
structure SW (w0 : World) where
  w : World
  h : Ext w0 w
instance (w0 : World) : Inhabited (SW w0) := ⟨⟨w0, Mods.refl _ _⟩⟩
theorem ext_same {P : Program} {f : FuncId} {args : Array Value} {w : World} {c : Value} (h : Calls P f args w fun e w' => e = .returned c ∧ w = w') : Calls P f args w fun e w' => e = .returned c ∧ Ext w w' :=
  h.mono fun _ _ ⟨h1, h2⟩ => ⟨h1, h2 ▸ Mods.refl _ _⟩
def InSW (w0 : World) : World → Prop := fun w => ∃ x : SW w0, w = x.w

theorem SW.cell {w0 : World} (x : SW w0) (b o : Nat) (h : b < w0.heap.size) : x.w.cell? ⟨b, o, none⟩ = w0.cell? ⟨b, o, none⟩ := x.h.cell (p := ⟨b, o, none⟩) h (fun hh => hh)
theorem SW.frozen {w0 : World} (x : SW w0) (b o : Nat) (h : b < w0.heap.size) : x.w.frozen? ⟨b, o, none⟩ = w0.frozen? ⟨b, o, none⟩ := x.h.frozen (p := ⟨b, o, none⟩) h (fun hh => hh)
@[go_sem] theorem SW.cellD {w0 : World} (x : SW w0.drew) (b o : Nat) (h : b < w0.heap.size) : x.w.cell? ⟨b, o, none⟩ = w0.cell? ⟨b, o, none⟩ := x.cell b o h
@[go_sem] theorem SW.frozenD {w0 : World} (x : SW w0.drew) (b o : Nat) (h : b < w0.heap.size) : x.w.frozen? ⟨b, o, none⟩ = w0.frozen? ⟨b, o, none⟩ := x.frozen b o h
theorem SW.sizeD {w0 : World} (x : SW w0.drew) : w0.heap.size ≤ x.w.heap.size := x.h.size
theorem SW.call {w0 : World} {x : SW w0} {f : FuncId} {args : Array Value} {v : Value} (h : Calls P f args x.w fun e w' => e = .returned v ∧ Ext x.w w') :
    Calls P f args x.w fun e w'' => e = .returned v ∧ ∃ y : SW w0, w'' = y.w := h.mono fun e w' ⟨he, hE⟩ => ⟨he, ⟨w', x.h.trans hE⟩, rfl⟩
theorem SW.callSame {w0 : World} {x : SW w0} {f : FuncId} {args : Array Value} {v : Value} (h : Calls P f args x.w fun e w' => e = .returned v ∧ x.w = w') :
    Calls P f args x.w fun e w'' => e = .returned v ∧ ∃ y : SW w0, w'' = y.w := h.mono fun e w' ⟨he, hE⟩ => ⟨he, x, hE.symm⟩

/-- Operations that are no call of a Go function. -/
def plainOp (o : Oper) : Bool :=
  match o.op with
  | .move _ | .assign _ | .load .. | .binOp .. | .unOp .. | .convert .. | .field .. | .fieldAddr .. | .index .. | .indexAddr .. | .slice .. | .build .. | .extract .. | .makeInterface .. | .lookup .. | .pick .. => true
  | .call { callee := .builtin .len, .. } | .call { callee := .builtin .cap, .. } | .call { callee := .builtin .min, .. } | .call { callee := .builtin .max, .. } => true
  | _ => false

theorem run_vf {α : Type} {s : Sem α} {g : α → Value} {W W' : World} {f : FuncId} {args : Array Value} : Sem.run P (s.bind fun v => Sem.pure (Next.value (g v))) W ≠ .ok (.enter f args) W' := by
  rw [Sem.run_bind']
  cases Sem.run P s W with
  | ok v w => intro h; simp [Sem.run] at h
  | halt x w => intro h; simp at h

theorem plainOp_run {o : Oper} (h : plainOp o = true) (ρ : Operand → Value) {W W' : World} {f : FuncId} {args : Array Value} : (execOp ρ o).run P W ≠ .ok (.enter f args) W' := by
  unfold plainOp at h
  unfold execOp
  split at h
  all_goals first
    | (cases h; done)
    | (rename_i e; rw [e]; first | exact run_vf (g := fun v => v) | exact run_vf (s := asBool _) (g := fun b => if b = true then _ else _) | (intro hh; simp [Sem.run, Pure.pure] at hh; done) | exact run_vf (s := Builtin.len_ ..) (g := fun v => v) | exact run_vf (s := Builtin.cap_ ..) (g := fun v => v) | exact run_vf (s := Builtin.min_ ..) (g := fun v => v) | exact run_vf (s := Builtin.max_ ..) (g := fun v => v))

def farOf (ops : Array Oper) (rels : List (Tmp × Pred)) (o : Oper) : Bool := (match o.op with | .select .. => false | _ => true) && rels.all fun p => !(o.looksAt ops).contains p.1 && o.dst != some p.1

def FlowX (P : Program) (ops : Array Oper) (w0 : World) (E : Act → List (Tmp × Pred) → Prop) : List (Tmp × Pred) → List Oper → Act → Prop
  | rels, [], a => E a rels
  | rels, o :: rest, a =>
    (farOf ops rels o = true ∧ plainOp o = true ∧ if Region.wanted o (yielded ops a.tmps) then o.quiet P a (InSW w0) (FlowX P ops w0 E rels rest) else FlowX P ops w0 E rels rest (a.put o.dst undef)) ∨
    (farOf ops rels o = true ∧ ∃ c, Region.wanted o (yielded ops a.tmps) = true ∧ (∀ x : SW w0, o.wp P a x.w (fun A' W' => A' = a.put o.dst c ∧ Ext x.w W') NoQ) ∧ FlowX P ops w0 E rels rest (a.put o.dst c)) ∨
    (∃ (d : Tmp) (φ : Pred), o.dst = some d ∧ rels.all (fun p => d != p.1) = true ∧ Stable φ ∧
      (∀ A W, Ext w0 W → (∀ t ∈ o.looksAt ops, (∀ p ∈ rels, p.1 ≠ t) → A.eval (.tmp t) = a.eval (.tmp t)) → (∀ p ∈ rels, p.1 ∈ o.looksAt ops → p.2 (A.eval (.tmp p.1)) W) →
        FStep P ops o A W (fun v W' => Ext W W' ∧ φ v W')) ∧ FlowX P ops w0 E ((d, φ) :: rels) rest a)

theorem FlowX.seg {E : Act → List (Tmp × Pred) → Prop} {rels : List (Tmp × Pred)} {rest : List Oper} : ∀ (l : List Oper) (a : Act), l.all (fun o => farOf ops rels o && plainOp o) = true →
    wpQuiet P ops (fun w => ∃ x : SW w0, w = x.w) (FlowX P ops w0 E rels rest) l a → FlowX P ops w0 E rels (l ++ rest) a
  | [], _, _, h => h
  | o :: l, a, hf, h => by
    simp only [List.all_cons, Bool.and_eq_true] at hf
    refine .inl ⟨hf.1.1, hf.1.2, ?_⟩
    unfold wpQuiet at h
    split
    · rename_i hw; rw [if_pos hw] at h
      exact Oper.quiet_mono (fun a' h' => FlowX.seg l a' hf.2 h') h
    · rename_i hw; rw [if_neg hw] at h
      exact FlowX.seg l _ hf.2 h

theorem run_callF {f : FuncId} {fn : Func} {xs : Array Operand} {ats : Array TypeId} {o : Oper} {A : Act} (hop : o.op = .call { callee := .value (.func f), args := xs, argTypes := ats }) (hfn : P.funcs[f]? = some fn) (hn : (fn.name == "runtime.NumGoroutine") = false) (hb : fn.body.isNone = false) (w : World) :
    (execOp A.eval o).run P w = .ok (.enter f (xs.map A.eval)) w := by
  obtain ⟨dst, op, ty, pos, after, guard⟩ := o
  simp only at hop
  subst hop
  rw [execOp_call_go]
  show Sem.run P (callFunc f _) w = _
  unfold callFunc
  have hn' : ¬ fn.name = "runtime.NumGoroutine" := by simpa using hn
  have hb' : ¬ fn.body = none := by intro e; rw [e] at hb; cases hb
  simp [hfn, hn', hb']

/-- A call with one outcome. -/
theorem FlowX.call {E : Act → List (Tmp × Pred) → Prop} {rels : List (Tmp × Pred)} {rest : List Oper} {o : Oper} {a : Act} {c : Value} {f : FuncId} {fn : Func} {xs : Array Operand} {ats : Array TypeId} {args : Array Value}
    (hop : o.op = .call { callee := .value (.func f), args := xs, argTypes := ats }) (hfn : P.funcs[f]? = some fn) (hn : (fn.name == "runtime.NumGoroutine") = false) (hb : fn.body.isNone = false)
    (hf : farOf ops rels o = true) (hw : Region.wanted o (yielded ops a.tmps) = true) (hc : ∀ x : SW w0, Calls P f args x.w fun e W' => e = .returned c ∧ Ext x.w W') (hargs : xs.map a.eval = args)
    (hr : FlowX P ops w0 E rels rest (a.put o.dst c)) : FlowX P ops w0 E rels (o :: rest) a :=
  .inr (.inl ⟨hf, c, hw, fun x => by
    unfold Oper.wp
    rw [run_callF hop hfn hn hb, hargs]
    refine Calls.mono (hc x) fun e W' he => ?_
    obtain ⟨rfl, hE⟩ := he
    exact ⟨rfl, hE⟩, hr⟩)

theorem FlowX.val {E : Act → List (Tmp × Pred) → Prop} {rels : List (Tmp × Pred)} {rest : List Oper} {o : Oper} {a : Act} (c : Value) (hf : farOf ops rels o = true) (hw : Region.wanted o (yielded ops a.tmps) = true)
    (hrun : ∀ x : SW w0, (execOp a.eval o).run P x.w = .ok (.value c) x.w) (hr : FlowX P ops w0 E rels rest (a.put o.dst c)) : FlowX P ops w0 E rels (o :: rest) a :=
  .inr (.inl ⟨hf, c, hw, fun x => by
    unfold Oper.wp
    rw [hrun]
    exact ⟨rfl, Mods.refl _ _⟩, hr⟩)

/-- A call, or an operation that makes memory: a lasting fact is known of what it yields. -/
theorem FlowX.callR {E : Act → List (Tmp × Pred) → Prop} {rels : List (Tmp × Pred)} {rest : List Oper} {o : Oper} {a : Act} {d : Tmp} (φ : Pred) (hd : o.dst = some d) (hg : o.guard = none) (hn : rels.all (fun p => d != p.1) = true) (hst : Stable φ)
    (h : ∀ (A : Act) (W : World), Ext w0 W → (∀ t ∈ o.looksAt ops, (∀ p ∈ rels, p.1 ≠ t) → A.eval (.tmp t) = a.eval (.tmp t)) → (∀ p ∈ rels, p.1 ∈ o.looksAt ops → p.2 (A.eval (.tmp p.1)) W) →
      ∃ f args, (∀ w, (execOp A.eval o).run P w = .ok (.enter f args) w) ∧ Calls P f args W fun e W' => ∃ v, e = .returned v ∧ Ext W W' ∧ φ v W')
    (hr : FlowX P ops w0 E ((d, φ) :: rels) rest a) : FlowX P ops w0 E rels (o :: rest) a :=
  .inr (.inr ⟨d, φ, hd, hn, hst, fun A W h1 h2 h3 => by
    obtain ⟨f, args, hrun, hc⟩ := h A W h1 h2 h3
    exact fstep_enter hg (hrun W) hc, hr⟩)

theorem FlowX.newR {E : Act → List (Tmp × Pred) → Prop} {rels : List (Tmp × Pred)} {rest : List Oper} {o : Oper} {a : Act} {d : Tmp} (φ : Pred) (hd : o.dst = some d) (hg : o.guard = none) (hn : rels.all (fun p => d != p.1) = true) (hst : Stable φ)
    (h : ∀ (A : Act) (W : World), Ext w0 W → (∀ t ∈ o.looksAt ops, (∀ p ∈ rels, p.1 ≠ t) → A.eval (.tmp t) = a.eval (.tmp t)) → (∀ p ∈ rels, p.1 ∈ o.looksAt ops → p.2 (A.eval (.tmp p.1)) W) →
      ∃ v W', (execOp A.eval o).run P W = .ok (.value v) W' ∧ Ext W W' ∧ φ v W')
    (hr : FlowX P ops w0 E ((d, φ) :: rels) rest a) : FlowX P ops w0 E rels (o :: rest) a :=
  .inr (.inr ⟨d, φ, hd, hn, hst, fun A W h1 h2 h3 => by
    obtain ⟨v, W', hrun, hp⟩ := h A W h1 h2 h3
    exact fstep_run hg hrun hp, hr⟩)

theorem FlowX.fin {E : Act → List (Tmp × Pred) → Prop} {rels : List (Tmp × Pred)} {a : Act} (h : E a rels) : FlowX P ops w0 E rels [] a := h

structure FRel (a0 : Act) (done rels : List (Tmp × Pred)) (a : Act) : Prop where
  tmps : a.tmps.size = a0.tmps.size
  defers : a.defers = a0.defers
  same : ∀ (A : Act) (W : World) (ts : List Tmp), FHas done ts A W → FOut done ts a0 A → ∀ t ∈ ts, (∀ p ∈ rels, p.1 ≠ t) → A.eval (.tmp t) = a.eval (.tmp t)
  rel : ∀ (A : Act) (W : World) (ts : List Tmp), FHas done ts A W → FOut done ts a0 A → ∀ p ∈ rels, p.1 ∈ ts → p.2 (A.eval (.tmp p.1)) W
  sub : ∀ p ∈ rels, p.1 ∈ done.map (·.1)

theorem fhas_filter {done : List (Tmp × Pred)} {ts : List Tmp} {A : Act} {W : World} {d : Tmp} {φ : Pred} (h : FHas ((d, φ) :: done) ts A W) : FHas done (ts.filter (· != d)) A W ∧ (d ∈ ts → φ (A.eval (.tmp d)) W) :=
  ⟨fun p hp ht => h p (List.mem_cons_of_mem _ hp) (List.mem_filter.1 ht).1, fun hd => h (d, φ) (List.mem_cons_self ..) hd⟩
theorem fout_filter {done : List (Tmp × Pred)} {ts : List Tmp} {a0 A : Act} {d : Tmp} {φ : Pred} (h : FOut ((d, φ) :: done) ts a0 A) : FOut done (ts.filter (· != d)) a0 A := ⟨h.1, fun t ht hn => by
  have := List.mem_filter.1 ht
  refine h.2 t this.1 ?_
  simp only [List.map_cons, List.mem_cons, not_or]
  exact ⟨by simpa using this.2, hn⟩⟩

theorem FRel.exact {a0 a : Act} {done rels : List (Tmp × Pred)} (h : FRel a0 done rels a) {d : Tmp} (c : Value) (hd : d < a0.tmps.size) (hf : ∀ p ∈ rels, p.1 ≠ d) :
    FRel a0 ((d, fun v _ => v = c) :: done) rels (a.put (some d) c) := by
  refine ⟨by simp [Act.put, h.tmps], by simp [Act.put, h.defers], ?_, ?_, fun p hp => List.mem_cons_of_mem _ (h.sub p hp)⟩
  · intro A W ts h1 h2 t ht hn
    obtain ⟨h3, h4⟩ := fhas_filter h1
    by_cases e : d = t
    · subst e
      rw [eval_put_same (by rw [h.tmps]; exact hd)]; exact h4 ht
    · rw [eval_put_other e]
      exact h.same A W _ h3 (fout_filter h2) t (List.mem_filter.2 ⟨ht, by simpa using Ne.symm e⟩) hn
  · intro A W ts h1 h2 p hp ht
    exact h.rel A W _ (fhas_filter h1).1 (fout_filter h2) p hp (List.mem_filter.2 ⟨ht, by simpa using hf p hp⟩)

theorem FRel.relate {a0 a : Act} {done rels : List (Tmp × Pred)} (h : FRel a0 done rels a) {d : Tmp} (φ : Pred) (hf : ∀ p ∈ rels, p.1 ≠ d) :
    FRel a0 ((d, φ) :: done) ((d, φ) :: rels) a := by
  refine ⟨h.tmps, h.defers, ?_, ?_, ?_⟩
  · intro A W ts h1 h2 t ht hn
    have e : d ≠ t := hn (d, φ) (List.mem_cons_self ..)
    exact h.same A W _ (fhas_filter h1).1 (fout_filter h2) t (List.mem_filter.2 ⟨ht, by simpa using Ne.symm e⟩) fun p hp => hn p (List.mem_cons_of_mem _ hp)
  · intro A W ts h1 h2 p hp ht
    rcases List.mem_cons.1 hp with rfl | hp
    · exact (fhas_filter h1).2 ht
    · exact h.rel A W _ (fhas_filter h1).1 (fout_filter h2) p hp (List.mem_filter.2 ⟨ht, by simpa using hf p hp⟩)
  · intro p hp
    rcases List.mem_cons.1 hp with rfl | hp
    · simp
    · exact List.mem_cons_of_mem _ (h.sub p hp)

theorem flowGo_of_x {E : Act → List (Tmp × Pred) → Prop} {K : List (Tmp × Pred) → Prop} {a0 : Act} (hE : ∀ done rels a, FRel a0 done rels a → (∀ p ∈ done, p.1 < a0.tmps.size) → E a rels → K done) :
    ∀ (l : List Oper) (done rels : List (Tmp × Pred)) (a : Act), (l.all fun o => match o.dst with | some d => decide (d < a0.tmps.size) | none => false) = true → (∀ p ∈ done, p.1 < a0.tmps.size) →
      FRel a0 done rels a → FlowX P ops w0 E rels l a → FlowGo P ops w0 a0 K done l
  | [], done, rels, a, _, hs, hR, h => hE done rels a hR hs h
  | o :: rest, done, rels, a, hl, hs, hR, h => by
    simp only [List.all_cons, Bool.and_eq_true] at hl
    obtain ⟨d, hd, hda⟩ : ∃ d, o.dst = some d ∧ d < a0.tmps.size := by
      have := hl.1
      split at this
      · rename_i d hd; exact ⟨d, hd, by simpa using this⟩
      · cases this
    have hs' : ∀ (φ : Pred), ∀ p ∈ (d, φ) :: done, p.1 < a0.tmps.size := fun φ p hp => by
      rcases List.mem_cons.1 hp with rfl | hp
      · exact hda
      · exact hs p hp
    unfold FlowX at h
    rcases (or_assoc.2 h) with h | ⟨d', φ, hd', hfar, hst, hstep, h⟩
    · have hfar : farOf ops rels o = true := h.elim (·.1) (·.1)
      have hf1 : ∀ p ∈ rels, p.1 ∉ o.looksAt ops ∧ p.1 ≠ d := fun p hp => by
        have := List.all_eq_true.1 (Bool.and_eq_true_iff.1 hfar).2 p hp
        simp only [Bool.and_eq_true, Bool.not_eq_true', List.contains_eq_mem, decide_eq_false_iff_not, bne_iff_ne, ne_eq, hd, Option.some.injEq] at this
        exact ⟨this.1, fun e => this.2 e.symm⟩
      have agree : ∀ A W, FHas done (o.looksAt ops) A W → FOut done (o.looksAt ops) a0 A → ∀ t ∈ o.looksAt ops, A.eval (.tmp t) = a.eval (.tmp t) := fun A W h1 h2 t ht =>
        hR.same A W _ h1 h2 t ht fun p hp e => (hf1 p hp).1 (e ▸ ht)
      have hns : ∀ cs b, o.op ≠ .select cs b := fun cs b e => by
        have := (Bool.and_eq_true_iff.1 hfar).1
        rw [e] at this; cases this
      have hexec : ∀ A W, FHas done (o.looksAt ops) A W → FOut done (o.looksAt ops) a0 A → execOp A.eval o = execOp a.eval o := fun A W h1 h2 =>
        execOp_congr o hns fun x hx => by
          cases x with
          | tmp t => exact agree A W h1 h2 t (List.mem_append_left _ (List.mem_filterMap.2 ⟨.tmp t, by simpa using hx, rfl⟩))
          | _ => rfl
      have hwant : ∀ A W, FHas done (o.looksAt ops) A W → FOut done (o.looksAt ops) a0 A → Region.wanted o (yielded ops A.tmps) = Region.wanted o (yielded ops a.tmps) := fun A W h1 h2 => by
        have hsz : A.tmps.size = a.tmps.size := by rw [h2.1, hR.tmps]
        unfold Region.wanted
        cases hg : o.guard with
        | none => rfl
        | some gw =>
          obtain ⟨g, want⟩ := gw
          have hy : yielded ops A.tmps g = yielded ops a.tmps g := by
            unfold yielded
            cases ht : (ops[g]?).bind (·.dst) with
            | none => rfl
            | some t =>
              have he := agree A W h1 h2 t (List.mem_append_right _ (by simp [hg, ht]))
              by_cases hts : t < A.tmps.size
              · have hts' : t < a.tmps.size := by rw [← hsz]; exact hts
                simp [Act.eval, Array.getD, hts, hts'] at he
                simp [hts, hts', he]
              · have hts' : ¬ t < a.tmps.size := by rw [← hsz]; exact hts
                simp [hts, hts']
          simp only [hy]
      rcases h with ⟨_, hpl, h⟩ | ⟨_, c, hw, hq, hnext⟩
      · split at h
        · rename_i hw
          obtain ⟨v, hq, hnext⟩ := h
          rw [hd] at hnext
          refine ⟨d, _, hd, stable_eq v, fun A W h1 h2 h3 => ?_, flowGo_of_x hE rest _ _ _ hl.2 (hs' _) (hR.exact v hda fun p hp => (hf1 p hp).2) hnext⟩
          unfold FStep
          rw [hwant A W h2 h3, if_pos hw]
          have hq1 := hq W ⟨⟨W, h1⟩, rfl⟩
          have hne := fun f args W' => plainOp_run (P := P) hpl a.eval (W := W) (W' := W') (f := f) (args := args)
          unfold Oper.quietAt at hq1
          unfold Oper.wp
          rw [hexec A W h2 h3]
          generalize (execOp a.eval o).run P W = r at *
          cases r with
          | ok nx w' =>
            cases nx <;> simp only [Oper.quietUpon] at hq1 <;> simp only [Oper.upon]
            case value u =>
              obtain ⟨e1, e2⟩ := hq1
              exact ⟨v, by rw [e2], by rw [e1]; exact Mods.refl _ _, rfl⟩
            case skip =>
              obtain ⟨e1, e2⟩ := hq1
              exact ⟨v, by rw [e2], by rw [e1]; exact Mods.refl _ _, rfl⟩
            case enter f args => exact absurd rfl (hne f args w')
          | halt x w' => simp only [Oper.quietUpon] at hq1
        · rename_i hw
          rw [hd] at h
          refine ⟨d, _, hd, stable_eq undef, fun A W h1 h2 h3 => ?_, flowGo_of_x hE rest _ _ _ hl.2 (hs' _) (hR.exact undef hda fun p hp => (hf1 p hp).2) h⟩
          unfold FStep
          rw [hwant A W h2 h3, if_neg hw]
          exact ⟨Mods.refl _ _, rfl⟩
      · rw [hd] at hnext
        refine ⟨d, _, hd, stable_eq c, fun A W h1 h2 h3 => ?_, flowGo_of_x hE rest _ _ _ hl.2 (hs' _) (hR.exact c hda fun p hp => (hf1 p hp).2) hnext⟩
        unfold FStep
        rw [hwant A W h2 h3, if_pos hw]
        have hq1 := hq ⟨W, h1⟩
        have hdsz : d < a.tmps.size := by rw [hR.tmps]; exact hda
        unfold Oper.wp at hq1 ⊢
        rw [hexec A W h2 h3]
        have hput : ∀ v, a.put o.dst v = a.put o.dst c → v = c := fun v e => by
          have := congrArg (fun b => b.eval (.tmp d)) e
          simpa [hd, eval_put_same hdsz] using this
        dsimp only at hq1
        generalize (execOp a.eval o).run P W = r at *
        cases r with
        | ok nx w' =>
          cases nx <;> simp only [Oper.upon] at hq1 ⊢
          case value u => exact ⟨c, by rw [hput u hq1.1], hq1.2, rfl⟩
          case skip => exact ⟨c, by rw [hput _ hq1.1], hq1.2, rfl⟩
          case defer dd =>
            exfalso
            have := congrArg (fun b => b.defers.length) hq1.1
            simp [hd, Act.put] at this
          case enter f args =>
            refine Calls.mono hq1 fun e W' he => ?_
            cases e with
            | returned u => exact ⟨c, by rw [hput u he.1], he.2, rfl⟩
            | panicked ch => exact (he : False).elim
            | outgrown => obtain ⟨_, _, hh⟩ := he; exact (hh : False).elim
          case row row args => exact Rows.mono hq1 fun u W' he => ⟨c, by rw [hput u he.1], he.2, rfl⟩
        | halt x w' => cases x <;> simp only [Oper.upon] at hq1 ⊢ <;> exact (hq1 : False).elim
    · obtain rfl : d = d' := by rw [hd] at hd'; exact Option.some.inj hd'
      have hf1 : ∀ p ∈ rels, p.1 ≠ d := fun p hp => by
        have := List.all_eq_true.1 hfar p hp
        simp at this
        exact fun e => this e.symm
      exact ⟨d, φ, hd, hst, fun A W h1 h2 h3 => hstep A W h1 (hR.same A W _ h2 h3) (hR.rel A W _ h2 h3),
        flowGo_of_x hE rest _ _ a hl.2 (hs' φ) (hR.relate φ hf1) h⟩


/-- A region that draws its order: the first n operations one after the other, each in whatever world the others may have left; then the rest. -/
theorem wp_region_x {id : Nat} {l : List Oper} {Q : Exit → Act → World → Prop} {a : Act} {w0 : World} (n : Nat) (hm : P.follows .mixedOrders = true) (hok : flowOk l.toArray n = true)
    (hs : ((l.take n).all fun o => match o.dst with | some d => decide (d < a.tmps.size) | none => false) = true)
    (h : FlowX P l.toArray w0.drew (fun a' rels => ∀ (x : SW w0.drew) (f : Tmp → Value), (∀ p ∈ rels, p.2 (f p.1) x.w) → wpList P l.toArray Q (l.drop n) (putAll a' f (rels.map (·.1))) x.w) [] (l.take n) a) :
    (Code.region id l.toArray true).wp P Q a w0 := by
  refine wp_region_flow n hm hok ?_ (flowGo_of_x ?_ (l.take n) [] [] a hs (fun _ hp => (by cases hp)) ⟨rfl, rfl, fun A W ts _ h2 t ht _ => h2.2 t ht (by simp), fun _ _ _ _ _ p hp => (by cases hp), fun p hp => (by cases hp)⟩ h)
  · rw [List.all_eq_true] at hs ⊢
    intro o ho
    have := hs o ho
    split at this
    · rename_i d hd; rw [hd]; simpa using this
    · cases this
  · intro done rels a' hR hsz hE f W hW hdone
    have hev : ∀ t, t ∈ done.map (·.1) → (putAll a f (done.map (·.1))).eval (.tmp t) = f t := fun t ht => by
      rw [putAll_eval, if_pos]
      obtain ⟨p, hp, rfl⟩ := List.mem_map.1 ht
      exact ⟨ht, hsz p hp⟩
    have hH : ∀ ts, FHas done ts (putAll a f (done.map (·.1))) W := fun ts p hp _ => by
      rw [hev p.1 (List.mem_map.2 ⟨p, hp, rfl⟩)]; exact hdone p hp
    have hO : ∀ ts, FOut done ts a (putAll a f (done.map (·.1))) := fun ts => ⟨putAll_size .., fun t _ hn => by
      rw [putAll_eval, if_neg fun hh => hn hh.1]⟩
    have hA : putAll a f (done.map (·.1)) = putAll a' f (rels.map (·.1)) := by
      refine act_ext (by rw [putAll_size, putAll_size, hR.tmps]) (by rw [putAll_defers, putAll_defers, hR.defers]) fun t => ?_
      rw [putAll_eval a' f]
      by_cases ht : t ∈ rels.map (·.1)
      · obtain ⟨p, hp, rfl⟩ := List.mem_map.1 ht
        have hd := hR.sub p hp
        have hlt : p.1 < a'.tmps.size := by
          obtain ⟨q, hq, e⟩ := List.mem_map.1 hd
          rw [hR.tmps, ← e]; exact hsz q hq
        rw [hev _ hd, if_pos ⟨ht, hlt⟩]
      · rw [if_neg fun hh => ht hh.1]
        exact hR.same _ W [t] (hH _) (hO _) t (by simp) fun p hp e => ht (List.mem_map.2 ⟨p, hp, e⟩)
    rw [hA]
    refine hE ⟨W, hW⟩ f fun p hp => ?_
    have := hR.rel _ W [p.1] (hH _) (hO _) p hp (by simp)
    rwa [hev p.1 (hR.sub p hp)] at this

end
end Go.Proofs.Ytiddmpmpjdnmeaa.L
