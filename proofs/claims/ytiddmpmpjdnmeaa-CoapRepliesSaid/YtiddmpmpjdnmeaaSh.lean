/-
  A region that draws its order, over a symbolic state: the rule.
-/
import Derived.Test.YtiddmpmpjdnmeaaSg
namespace Go.Proofs.Ytiddmpmpjdnmeaa.A
open Go.RowKit L
set_option linter.unusedVariables false
set_option linter.unusedSimpArgs false

abbrev Ch := List (Nat × (AV → List HE → Prop))

def rst (E : Env) : List Nat → Env
  | [] => []
  | t :: r => match look E t with
    | some v => (t, v) :: rst E r
    | none => rst E r
theorem look_rst {E : Env} {t : Nat} {v : AV} : ∀ {ts : List Nat}, look (rst E ts) t = some v → t ∈ ts ∧ look E t = some v
  | [], h => by cases h
  | s :: r, h => by
    unfold rst at h
    split at h
    · rename_i w hw
      unfold look at h
      cases hb : Nat.beq s t with
      | true =>
        rw [hb] at h
        cases h
        have := Nat.eq_of_beq_eq_true hb
        subst this
        exact ⟨List.mem_cons_self .., hw⟩
      | false =>
        rw [hb] at h
        obtain ⟨h1, h2⟩ := look_rst h
        exact ⟨List.mem_cons_of_mem _ h1, h2⟩
    · obtain ⟨h1, h2⟩ := look_rst h
      exact ⟨List.mem_cons_of_mem _ h1, h2⟩
theorem look_app {A B : Env} {t : Nat} {v : AV} (h : look (A ++ B) t = some v) : look A t = some v ∨ (look A t = none ∧ look B t = some v) := by
  induction A with
  | nil => exact .inr ⟨rfl, h⟩
  | cons p r ih =>
    rw [List.cons_append] at h
    simp only [look] at h ⊢
    cases hb : Nat.beq p.1 t with
    | true => rw [hb] at h; exact .inl h
    | false => rw [hb] at h; exact ih h
theorem look_map {D : Nat → Nat} {v : Nat → AV} {t : Nat} {w : AV} : ∀ {is : List Nat}, look (is.map fun i => (D i, v i)) t = some w → ∃ i ∈ is, D i = t ∧ w = v i
  | [], h => by cases h
  | i :: r, h => by
    rw [List.map_cons] at h
    unfold look at h
    cases hb : Nat.beq (D i) t with
    | true => rw [hb] at h; cases h; exact ⟨i, List.mem_cons_self .., Nat.eq_of_beq_eq_true hb, rfl⟩
    | false =>
      rw [hb] at h
      obtain ⟨j, h1, h2⟩ := look_map h
      exact ⟨j, List.mem_cons_of_mem _ h1, h2⟩
theorem look_map_none {D : Nat → Nat} {v : Nat → AV} {t : Nat} : ∀ {is : List Nat}, look (is.map fun i => (D i, v i)) t = none → ∀ i ∈ is, D i ≠ t
  | [], _, i, hi => by cases hi
  | j :: r, h, i, hi => by
    rw [List.map_cons] at h
    unfold look at h
    cases hb : Nat.beq (D j) t with
    | true => rw [hb] at h; cases h
    | false =>
      rw [hb] at h
      rcases List.mem_cons.1 hi with rfl | hi
      · intro e; rw [e] at hb; simp at hb
      · exact look_map_none h i hi

def FA (P : Program) (N : Nat) (ops : Array Oper) (E0 : Env) (H0 : List HE) (K : Env → Ch → Prop) : Env → Ch → List Oper → Prop
  | ex, nx, [] => K ex nx
  | ex, nx, o :: rest => ∃ d, o.dst = some d ∧ d < N ∧ (nx.all fun p => !(o.looksAt ops).contains p.1) = true ∧
      ((∃ v, OpF P N ops o (rst (ex ++ E0) (o.looksAt ops)) H0 (Is v) ∧ FA P N ops E0 H0 K ((d, v) :: ex) nx rest) ∨
       (∃ Φ, OpF P N ops o (rst (ex ++ E0) (o.looksAt ops)) H0 Φ ∧ FA P N ops E0 H0 K ex ((d, Φ) :: nx) rest))

def chosen : Ch → (Env → List HE → Prop) → Prop
  | [], F => F [] []
  | (d, Φ) :: r, F => ∀ v Hn, Φ v Hn → chosen r fun E H => F ((d, v) :: E) (Hn ++ H)
theorem chosen_map {D : Nat → Nat} {Ψ : Nat → AV → List HE → Prop} {v : Nat → AV} {Hn : Nat → List HE} : ∀ {is : List Nat} {F : Env → List HE → Prop}, chosen (is.map fun i => (D i, Ψ i)) F → (∀ i ∈ is, Ψ i (v i) (Hn i)) → F (is.map fun i => (D i, v i)) (is.flatMap Hn)
  | [], F, h, _ => h
  | i :: r, F, h, hi => by
    rw [List.map_cons] at h
    exact chosen_map (is := r) (h (v i) (Hn i) (hi i (List.mem_cons_self ..))) fun j hj => hi j (List.mem_cons_of_mem _ hj)

def idx (p : Nat → Bool) (n : Nat) : List Nat := ((List.range n).filter p).reverse
theorem mem_idx {p : Nat → Bool} {n i : Nat} : i ∈ idx p n ↔ i < n ∧ p i = true := by simp [idx]
theorem idx_succ (p : Nat → Bool) (n : Nat) : idx p (n + 1) = if p n = true then n :: idx p n else idx p n := by
  unfold idx
  rw [List.range_succ, List.filter_append]
  by_cases h : p n = true <;> simp [h]
theorem idx_congr {p q : Nat → Bool} {n : Nat} (h : ∀ i, i < n → p i = q i) : idx p n = idx q n := by
  unfold idx
  congr 1
  exact List.filter_congr fun i hi => h i (List.mem_range.1 hi)
theorem map_idx_congr {α : Type} {p q : Nat → Bool} {f g : Nat → α} {n : Nat} (h : ∀ i, i < n → p i = q i) (h' : ∀ i, i < n → f i = g i) : (idx p n).map f = (idx q n).map g := by
  rw [idx_congr h]
  exact List.map_congr_left fun i hi => h' i (mem_idx.1 hi).1
theorem idx_nodup (p : Nat → Bool) (n : Nat) : (idx p n).Pairwise (· ≠ ·) := by
  unfold idx
  rw [List.pairwise_reverse]
  have : ((List.range n).filter p).Pairwise (· ≠ ·) := (List.nodup_range (n := n)).sublist List.filter_sublist
  exact this.imp fun h => h.symm

section
variable {P : Program} {N : Nat} {ops : Array Oper} {E0 : Env} {H0 : List HE}

structure Facts (P : Program) (N : Nat) (ops : Array Oper) (E0 : Env) (H0 : List HE) (D : Nat → Nat) (X : Nat → Bool) (V : Nat → AV) (Ψ : Nat → AV → List HE → Prop) (i : Nat) (o : Oper) : Prop where
  dst : o.dst = some (D i)
  lt : D i < N
  exact : X i = true → Ψ i = Is (V i)
  far : ∀ j, j < i → X j = false → D j ∉ o.looksAt ops
  run : OpF P N ops o (rst ((idx X i).map (fun i => (D i, V i)) ++ E0) (o.looksAt ops)) H0 (Ψ i)

theorem fa_facts {K : Env → Ch → Prop} : ∀ (l : List Oper) (k : Nat) (D : Nat → Nat) (X : Nat → Bool) (V : Nat → AV) (Ψ : Nat → AV → List HE → Prop),
    (∀ j, l[j]? = if j < l.length then ops[k + j]? else none) → FA P N ops E0 H0 K ((idx X k).map fun i => (D i, V i)) ((idx (fun i => !X i) k).map fun i => (D i, Ψ i)) l →
    ∃ (D' : Nat → Nat) (X' : Nat → Bool) (V' : Nat → AV) (Ψ' : Nat → AV → List HE → Prop), (∀ i, i < k → D' i = D i ∧ X' i = X i ∧ V' i = V i ∧ Ψ' i = Ψ i) ∧
      K ((idx X' (k + l.length)).map fun i => (D' i, V' i)) ((idx (fun i => !X' i) (k + l.length)).map fun i => (D' i, Ψ' i)) ∧
      ∀ i, k ≤ i → i < k + l.length → ∀ o, ops[i]? = some o → Facts P N ops E0 H0 D' X' V' Ψ' i o
  | [], k, D, X, V, Ψ, _, h => ⟨D, X, V, Ψ, fun _ _ => ⟨rfl, rfl, rfl, rfl⟩, h, fun i h1 h2 => by simp at h2; omega⟩
  | o :: rest, k, D, X, V, Ψ, hl, h => by
    obtain ⟨d, hd, hdN, hnx, h⟩ := h
    have h0 : ops[k]? = some o := by have := hl 0; simpa using this.symm
    have hl' : ∀ j, rest[j]? = if j < rest.length then ops[k + 1 + j]? else none := fun j => by have := hl (j + 1); simpa [Nat.add_assoc, Nat.add_comm 1 j] using this
    have hfar : ∀ j, j < k → X j = false → D j ∉ o.looksAt ops := fun j hj hx hm => by
      have := List.all_eq_true.1 hnx (D j, Ψ j) (List.mem_map.2 ⟨j, mem_idx.2 ⟨hj, by simp [hx]⟩, rfl⟩)
      simp at this
      exact this hm
    have step : ∀ (x : Bool) (v : AV) (Φ : AV → List HE → Prop), (x = true → Φ = Is v) → OpF P N ops o (rst ((idx X k).map (fun i => (D i, V i)) ++ E0) (o.looksAt ops)) H0 Φ →
        FA P N ops E0 H0 K ((idx (fun i => if i = k then x else X i) (k + 1)).map fun i => ((fun i => if i = k then d else D i) i, (fun i => if i = k then v else V i) i)) ((idx (fun i => !(fun i => if i = k then x else X i) i) (k + 1)).map fun i => ((fun i => if i = k then d else D i) i, (fun i => if i = k then Φ else Ψ i) i)) rest →
        ∃ (D' : Nat → Nat) (X' : Nat → Bool) (V' : Nat → AV) (Ψ' : Nat → AV → List HE → Prop), (∀ i, i < k → D' i = D i ∧ X' i = X i ∧ V' i = V i ∧ Ψ' i = Ψ i) ∧
          K ((idx X' (k + (o :: rest).length)).map fun i => (D' i, V' i)) ((idx (fun i => !X' i) (k + (o :: rest).length)).map fun i => (D' i, Ψ' i)) ∧
          ∀ i, k ≤ i → i < k + (o :: rest).length → ∀ o, ops[i]? = some o → Facts P N ops E0 H0 D' X' V' Ψ' i o := by
      intro x v Φ hx hop hfa
      obtain ⟨D', X', V', Ψ', hs, hK, hall⟩ := fa_facts rest (k + 1) (fun i => if i = k then d else D i) (fun i => if i = k then x else X i) (fun i => if i = k then v else V i) (fun i => if i = k then Φ else Ψ i) hl' hfa
      have hk := hs k (by omega)
      simp only [if_true] at hk
      have hlt : ∀ i, i < k → D' i = D i ∧ X' i = X i ∧ V' i = V i ∧ Ψ' i = Ψ i := fun i hi => by
        have := hs i (by omega)
        have hne : i ≠ k := by omega
        simpa [hne] using this
      refine ⟨D', X', V', Ψ', hlt, by rw [show k + (o :: rest).length = k + 1 + rest.length by simp; omega]; exact hK, fun i h1 h2 o' ho' => ?_⟩
      by_cases hik : i = k
      · subst hik
        obtain rfl : o = o' := by rw [h0] at ho'; exact Option.some.inj ho'
        refine ⟨by rw [hd, hk.1], by rw [hk.1]; exact hdN, fun hX => ?_, fun j hj hxj => ?_, ?_⟩
        · rw [hk.2.2.2, hk.2.2.1]; exact hx (by rw [← hk.2.1]; exact hX)
        · rw [(hlt j hj).1]; exact hfar j hj (by rw [← (hlt j hj).2.1]; exact hxj)
        · rw [hk.2.2.2, map_idx_congr (q := X) (g := fun i => (D i, V i)) (fun j hj => (hlt j hj).2.1) (fun j hj => by rw [(hlt j hj).1, (hlt j hj).2.2.1])]
          exact hop
      · exact hall i (by omega) (by simp at h2; omega) o' ho'
    rcases h with ⟨v, hop, hfa⟩ | ⟨Φ, hop, hfa⟩
    · refine step true v (Is v) (fun _ => rfl) hop ?_
      rw [idx_succ, if_pos (by simp), idx_succ, if_neg (by simp), List.map_cons,
        map_idx_congr (q := X) (g := fun i => (D i, V i)) (fun j hj => by simp [show j ≠ k by omega]) (fun j hj => by simp [show j ≠ k by omega]),
        map_idx_congr (q := fun i => !X i) (g := fun i => (D i, Ψ i)) (fun j hj => by simp [show j ≠ k by omega]) (fun j hj => by simp [show j ≠ k by omega])]
      simpa using hfa
    · refine step false (.val undef) Φ (fun h => by cases h) hop ?_
      rw [idx_succ, if_neg (by simp), idx_succ, if_pos (by simp), List.map_cons,
        map_idx_congr (q := X) (g := fun i => (D i, V i)) (fun j hj => by simp [show j ≠ k by omega]) (fun j hj => by simp [show j ≠ k by omega]),
        map_idx_congr (q := fun i => !X i) (g := fun i => (D i, Ψ i)) (fun j hj => by simp [show j ≠ k by omega]) (fun j hj => by simp [show j ≠ k by omega])]
      simpa using hfa

theorem Anc.trans {i j k : Nat} (h : Anc ops i j) (h' : Anc ops j k) : Anc ops i k := by
  induction h with
  | self i => exact h'
  | step i j _ o e ho he hb hj _ ih => exact .step i j k o e ho he hb hj (ih h')

/-- What is known of operation i's yield. -/
def Phi (ops : Array Oper) (w0 : World) (R : Nat → Prop) (X : Nat → Bool) (Ψ : Nat → AV → List HE → Prop) (i : Nat) : Pr2 := fun lo hi u W =>
  w0.heap.size ≤ W.heap.size ∧ ∃ v Hn R1, Ψ i v Hn ∧ (∀ b, R b → R1 b) ∧ (∀ b, R1 b → R b ∨ ∃ k, Anc ops i k ∧ (X k = true ∨ k = i) ∧ lo k ≤ b ∧ b < hi k) ∧ RelV R1 W v u ∧
    (∀ e ∈ Hn, e.ok R1 W ∧ ∀ b, e.foot b → lo i ≤ b ∧ b < hi i ∧ ¬ R1 b) ∧ Hn.Pairwise Disj

theorem AW.regionD {Γ : Cx} {Q : Exit → Act → World → Prop} {E : Env} {H : List HE} {id : Nat} {l : List Oper} (n : Nat) (hm : P.follows .mixedOrders = true) (hok : flowOk2 l.toArray n = true)
    (h : FA P Γ.N l.toArray E H (fun ex nx => chosen nx fun E' H' => AO Γ P l.toArray Q (l.drop n) (E' ++ (ex ++ E)) (H' ++ H)) [] [] (l.take n)) : AW Γ P Q (.region id l.toArray true) E H := fun R a W hs0 ha0 => by
  have hn : n ≤ l.length := by
    simp only [flowOk2, Bool.and_eq_true, decide_eq_true_eq] at hok
    simpa using hok.1
  have hlen : (l.take n).length = n := by simp [hn]
  obtain ⟨D, X, V, Ψ, _, hK, hall⟩ := fa_facts (l.take n) 0 (fun _ => 0) (fun _ => true) (fun _ => .val undef) (fun _ _ _ => True) (fun j => by
    rw [hlen]
    by_cases hj : j < n
    · simp [hj]
    · rw [if_neg hj]; exact List.getElem?_eq_none (by rw [hlen]; omega)) h
  rw [Nat.zero_add, hlen] at hK
  have hfacts : ∀ i, i < n → ∀ o, l.toArray[i]? = some o → Facts P Γ.N l.toArray E H D X V Ψ i o := fun i hi o ho => hall i (Nat.zero_le _) (by rw [hlen]; omega) o ho
  clear hall
  have hback : ∀ i o, l.toArray[i]? = some o → ∀ e ∈ o.after, Region.binds .any e = true → e.on < i := fun i o ho e he hb => flow2_back (flowOk2_at hok ho) e he hb
  have hop : ∀ i, i < n → ∃ o, l.toArray[i]? = some o := fun i hi => ⟨l[i], by simp [show i < l.length by omega]⟩
  have hdist : ∀ i j, i < n → j < n → i ≠ j → D i ≠ D j := fun i j hi hj hne => by
    obtain ⟨oi, hoi⟩ := hop i hi
    obtain ⟨oj, hoj⟩ := hop j hj
    exact (flow2_pair (flowOk2_at hok hoj) hj hi hne hoi (hfacts i hi oi hoi).dst (hfacts j hj oj hoj).dst).1
  -- the world behind the draw
  have hs : RelS Γ R H W.drew := ⟨hs0.mods.drew, hs0.rlt, hs0.rsub, hs0.rnew, fun e he => HE.ok_mono (W := W) (W' := W.drew) (fun _ h => h) (fun _ _ => rfl) (Nat.le_refl _) (fun _ _ => rfl) (hs0.ok e he), hs0.own, hs0.disj⟩
  have ha : RelA Γ.N R W.drew E a := ha0.mono (fun _ h => h) (fun _ _ => rfl)
  have hRlt : ∀ b, R b → b < W.drew.heap.size := hs.rlt
  have hHlt : ∀ e ∈ H, ∀ b, e.foot b → b < W.drew.heap.size := fun e he b hb => HE.ok_lt (hs.ok e he) hb
  obtain ⟨w0, hw0⟩ : ∃ w0, w0 = W.drew := ⟨_, rfl⟩
  rw [← hw0] at hs ha hRlt hHlt
  have hflow : FlowAll2 P l.toArray w0 a n (Phi l.toArray w0 R X Ψ) D := by
    intro i hi o ho
    have hF := hfacts i hi o ho
    refine ⟨hF.dst, ?_, ?_, ?_⟩
    · rintro lo hi' v W W' hb ⟨hle, v1, Hn, R1, h1, h2, h3, h4, h5, h6⟩ hE
      have hRW : ∀ b, R1 b → W'.heap[b]? = W.heap[b]? := fun b hb' => by
        refine hE.block b ?_ (fun hh => hh)
        rcases h3 b hb' with hr | ⟨k, hk, _, hk1, hk2⟩
        · have := hRlt b hr; omega
        · have := hb k hk; omega
      exact ⟨Nat.le_trans hle hE.size, v1, Hn, R1, h1, h2, h3, h4.mono (fun _ h => h) hRW, fun e he => ⟨HE.ok_mono (fun _ h => h) hRW hE.size (fun b hb' => hE.block b (HE.ok_lt (h5 e he).1 hb') (fun hh => hh)) (h5 e he).1, (h5 e he).2⟩, h6⟩
    · rintro lo hi' lo' hi'' v W hag ⟨hle, v1, Hn, R1, h1, h2, h3, h4, h5, h6⟩
      refine ⟨hle, v1, Hn, R1, h1, h2, fun b hb => ?_, h4, fun e he => ⟨(h5 e he).1, fun b hb => ?_⟩, h6⟩
      · rcases h3 b hb with hr | ⟨k, hk, hk0, hk1, hk2⟩
        · exact .inl hr
        · exact .inr ⟨k, hk, hk0, by rw [(hag k hk).1]; exact hk1, by rw [(hag k hk).2]; exact hk2⟩
      · rw [(hag i (.self i)).1, (hag i (.self i)).2]; exact (h5 e he).2 b hb
    · intro A W lo hi' hE hsz hdf hdeps hout
      let R2 : Nat → Prop := fun b => R b ∨ ∃ j, j < i ∧ D j ∈ o.looksAt l.toArray ∧ ∃ k, Anc l.toArray j k ∧ X k = true ∧ lo k ≤ b ∧ b < hi' k
      have hXj : ∀ j, j < i → D j ∈ o.looksAt l.toArray → X j = true := fun j hj hm' => by
        cases hx : X j with
        | true => rfl
        | false => exact absurd hm' (hF.far j hj hx)
      have hR2lt : ∀ b, R2 b → b < W.heap.size := by
        rintro b (hb | ⟨j, hj, hjm, k, hk, _, _, hk2⟩)
        · exact Nat.lt_of_lt_of_le (hRlt b hb) hE.size
        · have := ((hdeps j hj hjm).2.2 k hk).2; omega
      have hRW : ∀ b, R b → W.heap[b]? = w0.heap[b]? := fun b hb => hE.block b (hRlt b hb) (fun hh => hh)
      have hA : RelA Γ.N R2 W (rst ((idx X i).map (fun i => (D i, V i)) ++ E) (o.looksAt l.toArray)) A := by
        refine ⟨by rw [hdf]; exact ha.defers, by rw [hsz]; exact ha.size, fun t v ht => ?_⟩
        obtain ⟨htl, ht⟩ := look_rst ht
        rcases look_app ht with ht | ⟨htn, ht⟩
        · obtain ⟨j, hj, rfl, rfl⟩ := look_map ht
          obtain ⟨hji, hjx⟩ := mem_idx.1 hj
          obtain ⟨-, ⟨-, -, -, -, v1, Hn, R1, h1, h2, h3, h4, -⟩, -⟩ := hdeps j hji htl
          obtain ⟨oj, hoj⟩ := hop j (by omega)
          rw [(hfacts j (by omega) oj hoj).exact hjx] at h1
          obtain ⟨rfl, -⟩ := h1
          refine h4.mono (fun b hb => ?_) (fun _ _ => rfl)
          rcases h3 b hb with hr | ⟨k, hk, hk0, hk1, hk2⟩
          · exact .inl hr
          · refine .inr ⟨j, hji, htl, k, hk, ?_, hk1, hk2⟩
            rcases hk0 with hk0 | rfl
            · exact hk0
            · exact hjx
        · rw [hout t htl fun j hj e => ?_]
          · exact (ha.slots t v ht).mono (fun b hb => .inl hb) hRW
          · exact look_map_none htn j (mem_idx.2 ⟨hj, hXj j hj (e ▸ htl)⟩) e
      have hrun := hF.run R2 A W hR2lt (fun e he => HE.ok_mono (fun b hb => .inl hb) hRW hE.size (fun b hb => hE.block b (hHlt e he b hb) (fun hh => hh)) (hs.ok e he)) (fun e he b hb hr => by
        rcases hr with hr | ⟨j, hj, hjm, k, hk, _, hk1, _⟩
        · exact (hs.own e he b hb).2 hr
        · have h1 := ((hdeps j hj hjm).2.2 k hk).1
          have h2 := hHlt e he b hb
          omega) hA
      have post : ∀ u W', (∃ v Hn R', Ψ i v Hn ∧ Post1 R2 W v Hn u W' R') → Ext W W' ∧ ∀ lo2 hi2 : Nat → Nat, lo2 i = W.heap.size → hi2 i = W'.heap.size → (∀ k, k ≠ i → lo2 k = lo k ∧ hi2 k = hi' k) → Phi l.toArray w0 R X Ψ i lo2 hi2 u W' := by
        rintro u W' ⟨v, Hn, R', hΨ, p⟩
        refine ⟨p.ext, fun lo2 hi2 e1 e2 e3 => ⟨Nat.le_trans hE.size p.ext.size, v, Hn, R', hΨ, fun b hb => p.sub b (.inl hb), fun b hb => ?_, p.val, fun e he => ⟨(p.ok e he).1, fun b hb => ?_⟩, p.disj⟩⟩
        · rcases p.new b hb with (hr | ⟨j, hj, hjm, k, hk, hk0, hk1, hk2⟩) | ⟨h1, h2⟩
          · exact .inl hr
          · have hki : k ≠ i := by have := anc_le hback hk; omega
            refine .inr ⟨k, (hdeps j hj hjm).1.trans hk, .inl hk0, ?_, ?_⟩
            · rw [(e3 k hki).1]; exact hk1
            · rw [(e3 k hki).2]; exact hk2
          · exact .inr ⟨i, .self i, .inr rfl, by rw [e1]; exact h1, by rw [e2]; exact h2⟩
        · obtain ⟨h1, h2⟩ := (p.ok e he).2 b hb
          exact ⟨by rw [e1]; exact h1, by rw [e2]; exact HE.ok_lt (p.ok e he).1 hb, h2⟩
      unfold FStep at hrun ⊢
      split
      · rename_i hw
        rw [if_pos hw] at hrun
        refine Oper.wp_mono ?_ hrun
        rintro A' W' ⟨u, rfl, hp⟩
        exact ⟨u, rfl, post u W' hp⟩
      · rename_i hw
        rw [if_neg hw] at hrun
        exact post _ _ hrun
  refine wp_region_any hm (wpAny_flow2 (n := n) (Φ := Phi l.toArray w0 R X Ψ) (D := D) (w0 := w0) (a := a) hok (by simpa using hn) (fun i hi => by
      obtain ⟨o, ho⟩ := hop i hi
      rw [ha.size]; exact (hfacts i hi o ho).lt) hflow ?_ _ _ _ _ ?_ ⟨by simp, ?_, ?_, by rw [hw0]; exact Mods.refl _ _, rfl, rfl, ⟨fun _ => 0, fun _ => 0, ?_, ?_⟩, fun _ _ => rfl⟩)
  · intro A W lo hi hE hsz hdf hgood hdis hout
    have hex : ∀ i : Nat, ∃ q : AV × List HE × (Nat → Prop), i < n → Ψ i q.1 q.2.1 ∧ (∀ b, R b → q.2.2 b) ∧ (∀ b, q.2.2 b → R b ∨ ∃ k, k < n ∧ (X k = true ∨ k = i) ∧ lo k ≤ b ∧ b < hi k) ∧ RelV q.2.2 W q.1 (A.eval (.tmp (D i))) ∧
        (∀ e ∈ q.2.1, e.ok q.2.2 W ∧ ∀ b, e.foot b → lo i ≤ b ∧ b < hi i ∧ ¬ q.2.2 b) ∧ q.2.1.Pairwise Disj := fun i => by
      by_cases hi' : i < n
      · obtain ⟨-, -, -, -, v, Hn, R1, h1, h2, h3, h4, h5, h6⟩ := hgood i hi'
        refine ⟨(v, Hn, R1), fun _ => ⟨h1, h2, fun b hb => ?_, h4, h5, h6⟩⟩
        rcases h3 b hb with hr | ⟨k, hk, hk0, hk1, hk2⟩
        · exact .inl hr
        · exact .inr ⟨k, by have := anc_le hback hk; omega, hk0, hk1, hk2⟩
      · exact ⟨(.val undef, [], R), fun h => absurd h hi'⟩
    obtain ⟨f, hf⟩ := Classical.axiomOfChoice hex
    have hlo : ∀ i, i < n → w0.heap.size ≤ lo i ∧ lo i ≤ hi i ∧ hi i ≤ W.heap.size := fun i hi' => ⟨(hgood i hi').1, (hgood i hi').2.1, (hgood i hi').2.2.1⟩
    have hV : ∀ i, i < n → X i = true → (f i).1 = V i ∧ (f i).2.1 = [] := fun i hi' hx => by
      obtain ⟨o, ho⟩ := hop i hi'
      have := (hf i hi').1
      rw [(hfacts i hi' o ho).exact hx] at this
      exact this
    have hAO := chosen_map (v := fun i => (f i).1) (Hn := fun i => (f i).2.1) hK (fun i hi' => (hf i (mem_idx.1 hi').1).1)
    let R3 : Nat → Prop := fun b => R b ∨ ∃ i, i < n ∧ (f i).2.2 b
    have hR3 : ∀ b, R3 b → R b ∨ ∃ k, k < n ∧ lo k ≤ b ∧ b < hi k := by
      rintro b (hb | ⟨i, hi', hb⟩)
      · exact .inl hb
      · rcases (hf i hi').2.2.1 b hb with hr | ⟨k, hk, _, hk1, hk2⟩
        · exact .inl hr
        · exact .inr ⟨k, hk, hk1, hk2⟩
    have hRW : ∀ b, R b → W.heap[b]? = w0.heap[b]? := fun b hb => hE.block b (hRlt b hb) (fun hh => hh)
    have hHW : ∀ e ∈ H, ∀ b, e.foot b → W.heap[b]? = w0.heap[b]? := fun e he b hb => hE.block b (hHlt e he b hb) (fun hh => hh)
    have hnew : ∀ e ∈ (idx (fun i => !X i) n).flatMap (fun i => (f i).2.1), ∃ i, i < n ∧ X i = false ∧ e ∈ (f i).2.1 := fun e he => by
      obtain ⟨i, hi', he⟩ := List.mem_flatMap.1 he
      obtain ⟨h1, h2⟩ := mem_idx.1 hi'
      exact ⟨i, h1, by simpa using h2, he⟩
    have hfoot : ∀ i, i < n → ∀ e ∈ (f i).2.1, ∀ b, e.foot b → lo i ≤ b ∧ b < hi i ∧ ¬ (f i).2.2 b := fun i hi' e he b hb => ((hf i hi').2.2.2.2.1 e he).2 b hb
    refine hAO R3 A W ⟨hs.mods.trans hE.any, ?_, fun b hb => .inl (hs.rsub b hb), ?_, ?_, ?_, ?_⟩ ⟨by rw [hdf]; exact ha.defers, by rw [hsz]; exact ha.size, ?_⟩
    · intro b hb
      rcases hR3 b hb with hb | ⟨k, hk, _, hk2⟩
      · exact Nat.lt_of_lt_of_le (hRlt b hb) hE.size
      · have := (hlo k hk).2.2; omega
    · intro b hb
      rcases hR3 b hb with hb | ⟨k, hk, hk1, _⟩
      · exact hs.rnew b hb
      · have h1 := (hlo k hk).1
        have h2 := hs.mods.size
        exact .inr (.inl (by omega))
    · intro e he
      rcases List.mem_append.1 he with he | he
      · obtain ⟨i, hi', _, he⟩ := hnew e he
        exact HE.ok_mono (fun b hb => .inr ⟨i, hi', hb⟩) (fun _ _ => rfl) (Nat.le_refl _) (fun _ _ => rfl) ((hf i hi').2.2.2.2.1 e he).1
      · exact HE.ok_mono (fun b hb => .inl hb) hRW hE.size (hHW e he) (hs.ok e he)
    · intro e he b hb
      rcases List.mem_append.1 he with he | he
      · obtain ⟨i, hi', hxi, he⟩ := hnew e he
        obtain ⟨h1, h2, h3⟩ := hfoot i hi' e he b hb
        refine ⟨.inl (by have := (hlo i hi').1; have := hs.mods.size; omega), ?_⟩
        rintro (hr | ⟨j, hj, hr⟩)
        · have := hRlt b hr; have := (hlo i hi').1; omega
        · by_cases hji : j = i
          · subst hji; exact h3 hr
          · rcases (hf j hj).2.2.1 b hr with hr | ⟨k, hk, hk0, hk1, hk2⟩
            · have := hRlt b hr; have := (hlo i hi').1; omega
            · have hki : k ≠ i := by
                rcases hk0 with hk0 | rfl
                · intro e; rw [e, hxi] at hk0; cases hk0
                · exact hji
              rcases hdis k i hk hi' hki with h | h <;> omega
      · refine ⟨(hs.own e he b hb).1, fun hr => ?_⟩
        rcases hR3 b hr with hr | ⟨k, hk, hk1, _⟩
        · exact (hs.own e he b hb).2 hr
        · have := (hlo k hk).1; have := hHlt e he b hb; omega
    · rw [List.pairwise_append]
      refine ⟨?_, hs.disj, fun e he g hg b hb hb' => ?_⟩
      · rw [List.pairwise_flatMap]
        refine ⟨fun i hi' => (hf i (mem_idx.1 hi').1).2.2.2.2.2, ?_⟩
        refine (idx_nodup _ n).imp_of_mem fun {i j} hi' hj hij x hx y hy b hb hb' => ?_
        have h1 := hfoot i (mem_idx.1 hi').1 x hx b hb
        have h2 := hfoot j (mem_idx.1 hj).1 y hy b hb'
        rcases hdis i j (mem_idx.1 hi').1 (mem_idx.1 hj).1 hij with h | h <;> omega
      · obtain ⟨i, hi', _, he⟩ := hnew e he
        have h1 := (hfoot i hi' e he b hb).1
        have h2 := hHlt g hg b hb'
        have h3 := (hlo i hi').1
        omega
    · intro t v ht
      rcases look_app ht with ht | ⟨htn, ht⟩
      · obtain ⟨i, hi', rfl, rfl⟩ := look_map ht
        exact ((hf i (mem_idx.1 hi').1).2.2.2.1).mono (fun b hb => .inr ⟨i, (mem_idx.1 hi').1, hb⟩) (fun _ _ => rfl)
      · rcases look_app ht with ht | ⟨htn2, ht⟩
        · obtain ⟨i, hi', rfl, rfl⟩ := look_map ht
          obtain ⟨h1, h2⟩ := mem_idx.1 hi'
          rw [← (hV i h1 h2).1]
          exact ((hf i h1).2.2.2.1).mono (fun b hb => .inr ⟨i, h1, hb⟩) (fun _ _ => rfl)
        · rw [hout t fun i hi' e => ?_]
          · exact (ha.slots t v ht).mono (fun b hb => .inl hb) hRW
          · cases hx : X i with
            | true => exact look_map_none htn2 i (mem_idx.2 ⟨hi', hx⟩) e
            | false => exact look_map_none htn i (mem_idx.2 ⟨hi', by simp [hx]⟩) e
  · simp
  · intro i hi
    by_cases h : i < l.length <;> simp [Array.getD, h]
  · intro i o hl
    by_cases h : i < l.length <;> simp [Array.getD, h] at hl
  · intro i hi hl
    by_cases h : i < l.length <;> simp [Array.getD, h] at hl
  · intro i j hi hj hne hl
    by_cases h : i < l.length <;> simp [Array.getD, h] at hl

/-! One operation of the head. -/
section
variable {K : Env → Ch → Prop} {ex : Env} {nx : Ch} {rest : List Oper} {o : Oper}
theorem FA.op {d : Nat} {v : AV} (h : OpW P N o (rst (ex ++ E0) (o.looksAt ops)) H0 (Is v)) (hw : wantedIs ops (rst (ex ++ E0) (o.looksAt ops)) o = some true) (hd : o.dst = some d) (hN : Nat.ble (d + 1) N = true) (hnx : (nx.all fun p => !(o.looksAt ops).contains p.1) = true) (k : FA P N ops E0 H0 K ((d, v) :: ex) nx rest) :
    FA P N ops E0 H0 K ex nx (o :: rest) := ⟨d, hd, Nat.le_of_ble_eq_true hN, hnx, .inl ⟨v, .run hw h, k⟩⟩
theorem FA.opN {d : Nat} {Φ : AV → List HE → Prop} (h : OpW P N o (rst (ex ++ E0) (o.looksAt ops)) H0 Φ) (hw : wantedIs ops (rst (ex ++ E0) (o.looksAt ops)) o = some true) (hd : o.dst = some d) (hN : Nat.ble (d + 1) N = true) (hnx : (nx.all fun p => !(o.looksAt ops).contains p.1) = true) (k : FA P N ops E0 H0 K ex ((d, Φ) :: nx) rest) :
    FA P N ops E0 H0 K ex nx (o :: rest) := ⟨d, hd, Nat.le_of_ble_eq_true hN, hnx, .inr ⟨Φ, .run hw h, k⟩⟩
theorem FA.opG {d : Nat} {c : Bool} {v : AV} (hw : guardIs ops (rst (ex ++ E0) (o.looksAt ops)) o = some c) (hd : o.dst = some d) (hN : Nat.ble (d + 1) N = true) (hnx : (nx.all fun p => !(o.looksAt ops).contains p.1) = true) (h : c = true → OpW P N o (rst (ex ++ E0) (o.looksAt ops)) H0 (Is v)) (k : FA P N ops E0 H0 K ((d, .opt c v) :: ex) nx rest) :
    FA P N ops E0 H0 K ex nx (o :: rest) := ⟨d, hd, Nat.le_of_ble_eq_true hN, hnx, .inl ⟨_, .opt hw h, k⟩⟩
theorem FA.no {d : Nat} (hw : wantedIs ops (rst (ex ++ E0) (o.looksAt ops)) o = some false) (hd : o.dst = some d) (hN : Nat.ble (d + 1) N = true) (hnx : (nx.all fun p => !(o.looksAt ops).contains p.1) = true) (k : FA P N ops E0 H0 K ((d, .val undef) :: ex) nx rest) :
    FA P N ops E0 H0 K ex nx (o :: rest) := ⟨d, hd, Nat.le_of_ble_eq_true hN, hnx, .inl ⟨_, .no hw, k⟩⟩
theorem FA.nil (k : K ex nx) : FA P N ops E0 H0 K ex nx [] := k
end
end
end Go.Proofs.Ytiddmpmpjdnmeaa.A
