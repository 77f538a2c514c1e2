/-
  A region that draws its order, over a symbolic state: its first operations each in whatever state the others may have left, the rest one after the other.
-/
import Derived.Test.YtiddmpmpjdnmeaaSf
namespace Go.Proofs.Ytiddmpmpjdnmeaa.A
open Go.RowKit L
set_option linter.unusedVariables false
set_option linter.unusedSimpArgs false

abbrev Pr2 := (Nat → Nat) → (Nat → Nat) → Value → World → Prop

/-- What an operation waits for, itself included. -/
inductive Anc (ops : Array Oper) : Nat → Nat → Prop
  | self (i : Nat) : Anc ops i i
  | step (i j k : Nat) (o : Oper) (e : Edge) : ops[i]? = some o → e ∈ o.after → Region.binds .any e = true → e.on = j → Anc ops j k → Anc ops i k

def addAll (a : List Nat) : List Nat → List Nat
  | [] => a
  | x :: r => addAll (bif a.contains x then a else x :: a) r
theorem mem_addAll {x : Nat} : ∀ {b a : List Nat}, x ∈ addAll a b → x ∈ a ∨ x ∈ b
  | [], a, h => .inl h
  | y :: r, a, h => by
    unfold addAll at h
    rcases mem_addAll h with h | h
    · cases hc : a.contains y with
      | true => rw [hc] at h; exact .inl h
      | false =>
        rw [hc] at h
        rcases List.mem_cons.1 h with rfl | h
        · exact .inr (List.mem_cons_self ..)
        · exact .inl h
    · exact .inr (List.mem_cons_of_mem _ h)
def ancOf (acc : List (List Nat)) (o : Oper) : List Nat := o.after.toList.foldl (fun m e => bif Region.binds .any e then addAll (addAll m [e.on]) (acc.getD e.on []) else m) []
def ancs : List Oper → List (List Nat) → List (List Nat)
  | [], acc => acc
  | o :: r, acc => ancs r (acc ++ [ancOf acc o])

theorem mem_ancOf {acc : List (List Nat)} {o : Oper} {x : Nat} (h : x ∈ ancOf acc o) : ∃ e ∈ o.after, Region.binds .any e = true ∧ (x = e.on ∨ x ∈ acc.getD e.on []) := by
  unfold ancOf at h
  have key : ∀ (l : List Edge) (m : List Nat), x ∈ l.foldl (fun m e => bif Region.binds .any e then addAll (addAll m [e.on]) (acc.getD e.on []) else m) m → x ∈ m ∨ ∃ e ∈ l, Region.binds .any e = true ∧ (x = e.on ∨ x ∈ acc.getD e.on []) := by
    intro l
    induction l with
    | nil => intro m h; exact .inl h
    | cons e l ih =>
      intro m h
      rw [List.foldl_cons] at h
      rcases ih _ h with h | ⟨e', he, hh⟩
      · cases hb : Region.binds .any e with
        | false => rw [hb] at h; exact .inl h
        | true =>
          rw [hb] at h
          rcases mem_addAll h with h | h
          · rcases mem_addAll h with h | h
            · exact .inl h
            · exact .inr ⟨e, List.mem_cons_self .., hb, .inl (by simpa using h)⟩
          · exact .inr ⟨e, List.mem_cons_self .., hb, .inr h⟩
      · exact .inr ⟨e', List.mem_cons_of_mem _ he, hh⟩
  rcases key _ _ h with h | ⟨e, he, hh⟩
  · cases h
  · exact ⟨e, by simpa using he, hh⟩

theorem ancs_get : ∀ (l : List Oper) (acc : List (List Nat)) (i : Nat), (i < acc.length → (ancs l acc).getD i [] = acc.getD i []) ∧
    (∀ o, acc.length ≤ i → l[i - acc.length]? = some o → ∃ acc', acc'.length = i ∧ (∀ k, k < i → acc'.getD k [] = (ancs l acc).getD k []) ∧ (ancs l acc).getD i [] = ancOf acc' o)
  | [], acc, i => ⟨fun _ => rfl, fun o _ h => by simp at h⟩
  | o :: r, acc, i => by
    obtain ⟨h1, h2⟩ := ancs_get r (acc ++ [ancOf acc o]) i
    have hlen : (acc ++ [ancOf acc o]).length = acc.length + 1 := by simp
    refine ⟨fun hi => ?_, fun o' hi ho => ?_⟩
    · rw [ancs, h1 (by rw [hlen]; omega)]
      simp [List.getD, List.getElem?_append, hi]
    · by_cases he : i = acc.length
      · subst he
        simp at ho
        subst ho
        refine ⟨acc, rfl, fun k hk => ?_, ?_⟩
        · have := (ancs_get r (acc ++ [ancOf acc o]) k).1 (by rw [hlen]; omega)
          rw [ancs, this]; simp [List.getD, List.getElem?_append, hk]
        · rw [ancs, h1 (by rw [hlen]; omega)]
          simp [List.getD]
      · rw [ancs]
        exact h2 o' (by rw [hlen]; omega) (by rw [hlen]; rw [show i - acc.length = (i - (acc.length + 1)) + 1 by omega] at ho; simpa using ho)

def flowOkAt2 (ops : Array Oper) (an : List (List Nat)) (n i : Nat) (o : Oper) : Bool :=
  let waits := fun j => o.after.any fun e => Region.binds .any e && e.on == j
  (match o.op with | .select .. => false | _ => true) && (o.after.all fun e => !Region.binds .any e || decide (e.on < i)) &&
  if i < n then
    o.dst.isSome &&
    (List.range n).all (fun j => j == i || ((ops[j]?).all fun oj => (match oj.dst with | some d => o.dst != some d && (!(o.looksAt ops).contains d || (decide (j < i) && waits j)) | none => true)))
  else (List.range i).all fun j => (an.getD i []).contains j
def flowOk2 (ops : Array Oper) (n : Nat) : Bool := decide (n ≤ ops.size) && (List.range ops.size).all fun i => (ops[i]?).all fun o => flowOkAt2 ops (ancs ops.toList []) n i o

section
variable {P : Program} {ops : Array Oper} {Q : Exit → Act → World → Prop} {a : Act} {w0 : World}

theorem flowOk2_at {n : Nat} (h : flowOk2 ops n = true) {i : Nat} {o : Oper} (ho : ops[i]? = some o) : flowOkAt2 ops (ancs ops.toList []) n i o = true := by
  simp only [flowOk2, Bool.and_eq_true, List.all_eq_true, List.mem_range] at h
  have hi : i < ops.size := (Array.getElem?_eq_some_iff.1 ho).1
  have := h.2 i hi
  rw [ho] at this
  simpa using this
theorem flow2_back {an : List (List Nat)} {n i : Nat} {o : Oper} (h : flowOkAt2 ops an n i o = true) : ∀ e ∈ o.after, Region.binds .any e = true → e.on < i := by
  intro e he hb
  simp only [flowOkAt2, Bool.and_eq_true] at h
  have := Array.all_eq_true_iff_forall_mem.1 h.1.2 e he
  simpa [hb] using this
theorem flow2_pair {an : List (List Nat)} {n i j : Nat} {o oj : Oper} {d e : Tmp} (h : flowOkAt2 ops an n i o = true) (hi : i < n) (hj : j < n) (hne : j ≠ i) (ho : ops[j]? = some oj) (hd : oj.dst = some d) (he : o.dst = some e) :
    d ≠ e ∧ (d ∈ o.looksAt ops → j < i ∧ ∃ x ∈ o.after, Region.binds .any x = true ∧ x.on = j) := by
  simp only [flowOkAt2, Bool.and_eq_true, if_pos hi, List.all_eq_true, List.mem_range] at h
  have := h.2.2 j hj
  rw [ho] at this
  simp only [hd, he, Option.all_some, Bool.or_eq_true, beq_iff_eq, hne, false_or, Bool.and_eq_true, bne_iff_ne, ne_eq, Option.some.injEq, Bool.not_eq_true', List.contains_eq_mem, decide_eq_true_eq, decide_eq_false_iff_not] at this
  refine ⟨fun e' => this.1 e'.symm, fun hm => ?_⟩
  rcases this.2 with h1 | ⟨h1, h2⟩
  · exact absurd hm h1
  · obtain ⟨x, hx, hx2⟩ := any_mem h2
    simp only [Bool.and_eq_true, beq_iff_eq] at hx2
    exact ⟨h1, x, hx, hx2.1, hx2.2⟩

/-- Whoever has run has waited. -/
def Closed (ops : Array Oper) (listed : Array Bool) : Prop := ∀ i o, listed.getD i false = true → ops[i]? = some o → ∀ e ∈ o.after, Region.binds .any e = true → listed.getD e.on false = true

theorem anc_listed {listed : Array Bool} (hc : Closed ops listed) (hback : ∀ i o, ops[i]? = some o → ∀ e ∈ o.after, Region.binds .any e = true → e.on < i) : ∀ (i : Nat) (o : Oper), ops[i]? = some o → (∀ e ∈ o.after, Region.binds .any e = true → listed.getD e.on false = true) →
    ∀ j, j ∈ (ancs ops.toList []).getD i [] → listed.getD j false = true := by
  intro i
  induction i using Nat.strongRecOn with
  | _ i ih =>
    intro o ho hdeps j hj
    obtain ⟨acc', h1, h2, h3⟩ := (ancs_get ops.toList [] i).2 o (Nat.zero_le _) (by simpa using ho)
    rw [h3] at hj
    obtain ⟨e, he, hb, hx⟩ := mem_ancOf hj
    rcases hx with rfl | hx
    · exact hdeps e he hb
    · have hlt := hback i o ho e he hb
      rw [h2 _ hlt] at hx
      have hes : e.on < ops.size := by have := (Array.getElem?_eq_some_iff.1 ho).1; omega
      have hoe : ops[e.on]? = some ops[e.on] := by simp [hes]
      exact ih e.on hlt _ hoe (fun e' he' hb' => hc e.on _ (hdeps e he hb) hoe e' he' hb') j hx

theorem flow2_tail {n i : Nat} {o : Oper} (hok : flowOk2 ops n = true) (ho : ops[i]? = some o) (hi : n ≤ i) {listed : Array Bool} (hc : Closed ops listed) (hdeps : ∀ e ∈ o.after, Region.binds .any e = true → listed.getD e.on false = true) : ∀ j, j < i → listed.getD j false = true := by
  intro j hj
  have h := flowOk2_at hok ho
  simp only [flowOkAt2, Bool.and_eq_true, if_neg (show ¬ i < n by omega), List.all_eq_true, List.mem_range] at h
  have h2 := h.2 j hj
  exact anc_listed hc (fun i o ho e he hb => flow2_back (flowOk2_at hok ho) e he hb) i o ho hdeps j (by simpa using h2)

theorem closed_set {listed : Array Bool} (hc : Closed ops listed) {i : Nat} {o : Oper} (ho : ops[i]? = some o) (hi : i < listed.size) (hdeps : ∀ e ∈ o.after, Region.binds .any e = true → listed.getD e.on false = true) : Closed ops (listed.setIfInBounds i true) := by
  have up : ∀ k, listed.getD k false = true → (listed.setIfInBounds i true).getD k false = true := fun k hk => by
    by_cases e : k = i
    · subst e; simp [Array.getD, hi]
    · rw [getD_set_ne false (Ne.symm e)]; exact hk
  intro k ok hk hok e he hb
  by_cases ek : k = i
  · subst ek
    rw [ho] at hok
    cases hok
    exact up _ (hdeps e he hb)
  · rw [getD_set_ne false (Ne.symm ek)] at hk
    exact up _ (hc k ok hk hok e he hb)

theorem wpAny_tail2 {n : Nat} (hok : flowOk2 ops n = true) : ∀ (fuel m : Nat) (listed : Array Bool) (A : Act) (W : World), m + fuel = ops.size → n ≤ m → listed.size = ops.size → Closed ops listed →
    (∀ i, i < ops.size → listed.getD i false = decide (i < m)) → wpList P ops Q (ops.toList.drop m) A W → wpAny P .any ops Q fuel listed A W := by
  intro fuel
  induction fuel with
  | zero =>
    intro m listed A W hm hn hs hcl hl h
    have hd : ops.toList.drop m = [] := List.drop_eq_nil_of_le (by simp; omega)
    rw [hd] at h
    refine ⟨?_, h⟩
    rw [List.eq_nil_iff_forall_not_mem]
    intro i hi
    obtain ⟨h0, o, ho, _⟩ := mem_ready.1 hi
    have hi' : i < ops.size := (Array.getElem?_eq_some_iff.1 ho).1
    have := hl i hi'
    have hi2 : i < listed.size := by omega
    simp [Array.getD, hi2] at h0 this
    rw [h0] at this
    simp at this
    omega
  | succ fuel ih =>
    intro m listed A W hm hn hs hcl hl h
    have hlt : m < ops.size := by omega
    have hd : ops.toList.drop m = ops[m] :: ops.toList.drop (m + 1) := by
      rw [List.drop_eq_getElem_cons (by simpa using hlt)]; simp
    rw [hd] at h
    have hom : ops[m]? = some ops[m] := by simp [hlt]
    have hsz : m < listed.size := by omega
    have hdm : ∀ e ∈ ops[m].after, Region.binds .any e = true → listed.getD e.on false = true := fun e he hb => by
      have h1 := flow2_back (flowOk2_at hok hom) e he hb
      have := hl e.on (by omega)
      rw [this]; simpa using h1
    have hmr : m ∈ Region.ready .any ops listed := mem_ready.2 ⟨by
        have := hl m hlt
        simp [Array.getD, hsz] at this ⊢
        exact this, ops[m], hom, hdm⟩
    refine ⟨fun e => (by rw [e] at hmr; cases hmr), fun i hi => ?_⟩
    have him : i = m := by
      obtain ⟨h0, o, ho, hall⟩ := mem_ready.1 hi
      have hi' : i < ops.size := (Array.getElem?_eq_some_iff.1 ho).1
      have hi2 : i < listed.size := by omega
      have hge : m ≤ i := by
        have := hl i hi'
        simp [Array.getD, hi2] at h0 this
        rw [h0] at this
        simpa using this
      rcases Nat.eq_or_lt_of_le hge with e | hgt
      · exact e.symm
      · have := flow2_tail hok ho (by omega) hcl hall m hgt
        rw [hl m hlt] at this
        simp at this
    subst him
    unfold wpOp
    rw [hom]
    have hK : ∀ A' W', wpList P ops Q (ops.toList.drop (i + 1)) A' W' → wpAny P .any ops Q fuel (listed.setIfInBounds i true) A' W' := fun A' W' h' =>
      ih (i + 1) _ A' W' (by omega) (by omega) (by simpa using hs) (closed_set hcl hom hsz hdm) (fun j hj => by
        by_cases hji : j = i
        · subst hji; simp [Array.getD, hsz]
        · rw [getD_set_ne false (Ne.symm hji), hl j hj]
          simp; omega) h'
    simp only [wpList] at h ⊢
    split
    · rename_i hw; rw [if_pos hw] at h; exact h.imp (Oper.wp_mono hK) id
    · rename_i hw; rw [if_neg hw] at h; exact hK _ _ h

def Good (w0 : World) (Φ : Nat → Pr2) (W : World) (lo hi : Nat → Nat) (i : Nat) (v : Value) : Prop := w0.heap.size ≤ lo i ∧ lo i ≤ hi i ∧ hi i ≤ W.heap.size ∧ Φ i lo hi v W

structure FInv2 (ops : Array Oper) (w0 : World) (a : Act) (n : Nat) (Φ : Nat → Pr2) (D : Nat → Tmp) (listed : Array Bool) (A : Act) (W : World) : Prop where
  size : listed.size = ops.size
  late : ∀ i, n ≤ i → listed.getD i false = false
  closed : Closed ops listed
  ext : Ext w0 W
  tmps : A.tmps.size = a.tmps.size
  defers : A.defers = a.defers
  has : ∃ lo hi : Nat → Nat, (∀ i, i < n → listed.getD i false = true → Good w0 Φ W lo hi i (A.eval (.tmp (D i)))) ∧ ∀ i j, i < n → j < n → i ≠ j → listed.getD i false = true → listed.getD j false = true → hi i ≤ lo j ∨ hi j ≤ lo i
  out : ∀ t, (∀ i, i < n → listed.getD i false = true → D i ≠ t) → A.eval (.tmp t) = a.eval (.tmp t)

theorem anc_closed {listed : Array Bool} (hc : Closed ops listed) {j k : Nat} (h : Anc ops j k) : listed.getD j false = true → listed.getD k false = true := by
  induction h with
  | self i => exact id
  | step i j k o e ho he hb hj _ ih => exact fun hl => ih (hj ▸ hc i o hl ho e he hb)
theorem anc_le (hback : ∀ i o, ops[i]? = some o → ∀ e ∈ o.after, Region.binds .any e = true → e.on < i) {j k : Nat} (h : Anc ops j k) : k ≤ j := by
  induction h with
  | self i => exact Nat.le_refl _
  | step i j k o e ho he hb hj _ ih => have := hback i o ho e he hb; omega

def FlowAll2 (P : Program) (ops : Array Oper) (w0 : World) (a : Act) (n : Nat) (Φ : Nat → Pr2) (D : Nat → Tmp) : Prop :=
  ∀ i, i < n → ∀ o, ops[i]? = some o → o.dst = some (D i) ∧ (∀ lo hi v W W', (∀ k, Anc ops i k → hi k ≤ W.heap.size) → Φ i lo hi v W → Ext W W' → Φ i lo hi v W') ∧
    (∀ lo hi lo' hi' v W, (∀ k, Anc ops i k → lo' k = lo k ∧ hi' k = hi k) → Φ i lo hi v W → Φ i lo' hi' v W) ∧
    ∀ A W (lo hi : Nat → Nat), Ext w0 W → A.tmps.size = a.tmps.size → A.defers = a.defers → (∀ j, j < i → D j ∈ o.looksAt ops → Anc ops i j ∧ Good w0 Φ W lo hi j (A.eval (.tmp (D j))) ∧ ∀ k, Anc ops j k → w0.heap.size ≤ lo k ∧ hi k ≤ W.heap.size) → (∀ t ∈ o.looksAt ops, (∀ j, j < i → D j ≠ t) → A.eval (.tmp t) = a.eval (.tmp t)) →
      FStep P ops o A W (fun v W' => Ext W W' ∧ ∀ lo' hi' : Nat → Nat, lo' i = W.heap.size → hi' i = W'.heap.size → (∀ k, k ≠ i → lo' k = lo k ∧ hi' k = hi k) → Φ i lo' hi' v W')

theorem wpAny_flow2 {n : Nat} {Φ : Nat → Pr2} {D : Nat → Tmp} (hok : flowOk2 ops n = true) (hn : n ≤ ops.size) (hD : ∀ i, i < n → D i < a.tmps.size) (hall : FlowAll2 P ops w0 a n Φ D)
    (hend : ∀ A W (lo hi : Nat → Nat), Ext w0 W → A.tmps.size = a.tmps.size → A.defers = a.defers → (∀ i, i < n → Good w0 Φ W lo hi i (A.eval (.tmp (D i)))) → (∀ i j, i < n → j < n → i ≠ j → hi i ≤ lo j ∨ hi j ≤ lo i) →
      (∀ t, (∀ i, i < n → D i ≠ t) → A.eval (.tmp t) = a.eval (.tmp t)) → wpList P ops Q (ops.toList.drop n) A W) :
    ∀ (fuel : Nat) (listed : Array Bool) (A : Act) (W : World), fuel = listed.toList.count false → FInv2 ops w0 a n Φ D listed A W → wpAny P .any ops Q fuel listed A W := by
  intro fuel
  induction fuel with
  | zero =>
    intro listed A W hc hI
    have hlt : ∀ i, i < ops.size → listed.getD i false = true := by
      intro i hi
      have hi' : i < listed.size := by rw [hI.size]; exact hi
      cases hb : listed.getD i false with
      | true => rfl
      | false =>
        exfalso
        have hm : false ∈ listed.toList := by
          rw [← hb]; simp [Array.getD, hi']
        have := List.count_pos_iff.2 hm
        omega
    have hnn : n = ops.size := by
      rcases Nat.lt_or_ge n ops.size with h | h
      · have := hI.late n (Nat.le_refl _); rw [hlt n h] at this; cases this
      · omega
    obtain ⟨lo, hi, h1, h2⟩ := hI.has
    have hw := hend A W lo hi hI.ext hI.tmps hI.defers (fun i hi => h1 i hi (hlt i (by omega))) (fun i j hi hj hne => h2 i j hi hj hne (hlt i (by omega)) (hlt j (by omega))) (fun t ht => hI.out t fun i hi _ => ht i hi)
    exact wpAny_tail2 hok 0 n listed A W (by omega) (Nat.le_refl _) hI.size hI.closed (fun i hi => by rw [hlt i hi]; simp; omega) hw
  | succ fuel ih =>
    intro listed A W hc hI
    obtain ⟨lo, hi', hh1, hh2⟩ := hI.has
    by_cases hdone : ∀ i, i < n → listed.getD i false = true
    · have hw := hend A W lo hi' hI.ext hI.tmps hI.defers (fun i hi => hh1 i hi (hdone i hi)) (fun i j hi hj hne => hh2 i j hi hj hne (hdone i hi) (hdone j hj)) (fun t ht => hI.out t fun i hi _ => ht i hi)
      refine wpAny_tail2 hok (fuel + 1) n listed A W ?_ (Nat.le_refl _) hI.size hI.closed (fun i hi => ?_) hw
      · have hl : listed.toList = List.replicate n true ++ List.replicate (ops.size - n) false := by
          apply List.ext_getElem
          · simp [hI.size]; omega
          · intro i h1 h2
            have h1' : i < listed.size := by simpa using h1
            have e : listed.toList[i] = listed.getD i false := by simp [Array.getD, h1']
            rw [e]
            by_cases hin : i < n
            · rw [hdone i hin, List.getElem_append_left (by simpa using hin)]; simp
            · rw [hI.late i (by omega), List.getElem_append_right (by simp; omega)]; simp
        rw [hl, List.count_append] at hc
        simp [List.count_replicate] at hc
        omega
      · by_cases hin : i < n
        · rw [hdone i hin]; simp [hin]
        · rw [hI.late i (by omega)]; simp [hin]
    · have hne : ∃ i, i ∈ Region.ready .any ops listed := by
        have hex : ∃ i, i < n ∧ listed.getD i false = false := by
          refine Classical.byContradiction fun hno => hdone fun i hi => ?_
          cases hb : listed.getD i false with
          | true => rfl
          | false => exact absurd ⟨i, hi, hb⟩ hno
        obtain ⟨i, ⟨hi, hf⟩, hmin⟩ : ∃ i, (i < n ∧ listed.getD i false = false) ∧ ∀ j, j < i → ¬ (j < n ∧ listed.getD j false = false) := by
          obtain ⟨i, h⟩ := hex
          exact least ⟨i, h⟩
        have hio : ops[i]? = some ops[i] := by simp [show i < ops.size by omega]
        refine ⟨i, mem_ready.2 ⟨by rw [getD_tf (by rw [hI.size]; omega)]; exact hf, _, hio, fun e he hb => ?_⟩⟩
        have := flow2_back (flowOk2_at hok hio) e he hb
        cases hb2 : listed.getD e.on false with
        | true => rfl
        | false => exact absurd ⟨by omega, hb2⟩ (hmin e.on this)
      refine ⟨fun e => (by obtain ⟨i, hi⟩ := hne; rw [e] at hi; cases hi), fun i hi => ?_⟩
      obtain ⟨h0, o, ho, hdeps⟩ := mem_ready.1 hi
      have hio : i < ops.size := (Array.getElem?_eq_some_iff.1 ho).1
      have hf : listed.getD i false = false := by rw [← getD_tf (by rw [hI.size]; exact hio)]; exact h0
      have hin : i < n := by
        refine Classical.byContradiction fun hge => hdone fun j hj => ?_
        exact flow2_tail hok ho (by omega) hI.closed hdeps j (by omega)
      obtain ⟨hdst, hst, hloc, hstep⟩ := hall i hin o ho
      have hback : ∀ i o, ops[i]? = some o → ∀ e ∈ o.after, Region.binds .any e = true → e.on < i := fun i o ho e he hb => flow2_back (flowOk2_at hok ho) e he hb
      have hanc : ∀ j k, j < n → listed.getD j false = true → Anc ops j k → k < n ∧ listed.getD k false = true := fun j k hj hl h => ⟨by have := anc_le hback h; omega, anc_closed hI.closed h hl⟩
      have hpair : ∀ j, j < n → j ≠ i → D j ≠ D i ∧ (D j ∈ o.looksAt ops → j < i ∧ listed.getD j false = true) := by
        intro j hj hji
        have hoj : ops[j]? = some ops[j] := by simp [show j < ops.size by omega]
        obtain ⟨h1, h2⟩ := flow2_pair (flowOk2_at hok ho) hin hj hji hoj (hall j hj _ hoj).1 hdst
        refine ⟨h1, fun hm => ?_⟩
        obtain ⟨h3, x, hx, hxb, hxo⟩ := h2 hm
        exact ⟨h3, by rw [← hxo]; exact hdeps x hx hxb⟩
      have hdir : ∀ j, j < n → j ≠ i → D j ∈ o.looksAt ops → Anc ops i j := fun j hj hji hm => by
        have hoj : ops[j]? = some ops[j] := by simp [show j < ops.size by omega]
        obtain ⟨h3, x, hx, hxb, hxo⟩ := (flow2_pair (flowOk2_at hok ho) hin hj hji hoj (hall j hj _ hoj).1 hdst).2 hm
        exact .step i j j o x ho hx hxb hxo (.self j)
      have hs := hstep A W lo hi' hI.ext hI.tmps hI.defers (fun j hj hm => by
        have hl := ((hpair j (by omega) (by omega)).2 hm).2
        refine ⟨hdir j (by omega) (by omega) hm, hh1 j (by omega) hl, fun k hk => ?_⟩
        obtain ⟨h5, h6⟩ := hanc j k (by omega) hl hk
        obtain ⟨g1, g2, g3, g4⟩ := hh1 k h5 h6
        exact ⟨g1, g3⟩) (fun t ht htd => hI.out t fun j hj hlj e => by
        subst e
        by_cases hji : j = i
        · subst hji; rw [hf] at hlj; cases hlj
        · exact htd j ((hpair j hj hji).2 ht).1 rfl)
      have hnext : ∀ v W', (Ext W W' ∧ ∀ lo2 hi2 : Nat → Nat, lo2 i = W.heap.size → hi2 i = W'.heap.size → (∀ k, k ≠ i → lo2 k = lo k ∧ hi2 k = hi' k) → Φ i lo2 hi2 v W') → wpAny P .any ops Q fuel (listed.setIfInBounds i true) (A.put o.dst v) W' := by
        intro v W' ⟨hE, hφ⟩
        have hil : i < listed.size := by rw [hI.size]; exact hio
        have hDi : D i < A.tmps.size := by rw [hI.tmps]; exact hD i hin
        refine ih _ _ _ ?_ ⟨by simpa using hI.size, ?_, closed_set hI.closed ho hil hdeps, hI.ext.trans hE, ?_, ?_, ⟨fun k => if k = i then W.heap.size else lo k, fun k => if k = i then W'.heap.size else hi' k, ?_, ?_⟩, ?_⟩
        · have hcs := count_set_true listed.toList i (by simpa using hil) (by simpa [Array.getD, hil] using hf)
          simp only [Array.toList_setIfInBounds]
          omega
        · intro j hj
          rw [getD_set_ne false (show i ≠ j by omega)]; exact hI.late j hj
        · rw [hdst]; simp [Act.put, hI.tmps]
        · rw [hdst]; simp [Act.put, hI.defers]
        · intro j hj hlj
          rw [hdst]
          by_cases hji : j = i
          · subst hji; rw [eval_put_same hDi]
            refine ⟨?_, ?_, ?_, ?_⟩
            · simp; exact hI.ext.size
            · simp; exact hE.size
            · simp
            · exact hφ _ _ (by simp) (by simp) (fun k hk => by simp [hk])
          · rw [getD_set_ne false (Ne.symm hji)] at hlj
            rw [eval_put_other (Ne.symm (hpair j hj hji).1)]
            have hoj : ops[j]? = some ops[j] := by simp [show j < ops.size by omega]
            obtain ⟨g1, g2, g3, g4⟩ := hh1 j hj hlj
            refine ⟨by simp [hji]; exact g1, by simp [hji]; exact g2, by simp [hji]; exact Nat.le_trans g3 hE.size, ?_⟩
            obtain ⟨-, hst2, hloc2, -⟩ := hall j hj _ hoj
            refine hloc2 lo hi' _ _ _ _ (fun k hk => ?_) (hst2 _ _ _ _ _ (fun k hk => (hh1 k (hanc j k hj hlj hk).1 (hanc j k hj hlj hk).2).2.2.1) g4 hE)
            have hki : k ≠ i := fun e => by
              have := (hanc j k hj hlj hk).2
              rw [e, hf] at this; cases this
            simp [hki]
        · intro j k hj hk hjk hlj hlk
          by_cases hji : j = i
          · subst hji
            have hki : k ≠ j := Ne.symm hjk
            rw [getD_set_ne false hjk] at hlk
            obtain ⟨g1, g2, g3, g4⟩ := hh1 k hk hlk
            right; simp [hki]; exact g3
          · rw [getD_set_ne false (Ne.symm hji)] at hlj
            by_cases hki : k = i
            · subst hki
              obtain ⟨g1, g2, g3, g4⟩ := hh1 j hj hlj
              left; simp [hji]; exact g3
            · rw [getD_set_ne false (Ne.symm hki)] at hlk
              simp [hji, hki]; exact hh2 j k hj hk hjk hlj hlk
        · intro t ht
          rw [hdst]
          have hti : D i ≠ t := ht i hin (by simp [Array.getD, hil])
          rw [eval_put_other hti]
          refine hI.out t fun j hj hlj => ht j hj ?_
          by_cases hji : j = i
          · subst hji; simp [Array.getD, hil]
          · rw [getD_set_ne false (Ne.symm hji)]; exact hlj
      unfold wpOp
      rw [ho]
      unfold FStep at hs
      show if Region.wanted o (yielded ops A.tmps) = true then _ else _
      split
      · rename_i hw
        rw [if_pos hw] at hs
        refine .inl (Oper.wp_mono ?_ (wp_of_noQ hs))
        rintro A' W' ⟨v, rfl, hp⟩
        exact hnext v W' hp
      · rename_i hw
        rw [if_neg hw] at hs
        exact hnext _ _ hs

end
end Go.Proofs.Ytiddmpmpjdnmeaa.A
