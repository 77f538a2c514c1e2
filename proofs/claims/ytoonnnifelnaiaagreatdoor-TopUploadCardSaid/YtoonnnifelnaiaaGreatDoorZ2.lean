/-
  Texts laid together (part 2): what the statement's walk and plain law need. No condition.
-/
import Derived.Laws.BytesArg
import Derived.Lib.SliceRun
import Derived.Laws.StructEq
import Derived.Laws.MakeOwn
import Derived.Laws.IdiomStrings
import Derived.Lib.EndianBits
import Derived.Maps.OwnSet
import Derived.DeepKeys4
import Derived.Test.YtoonnnifelnaiaaGreatDoorZ1
namespace Go.Proofs.YtoonnnifelnaiaaGreatDoor.A
open Go.RowKit L
set_option linter.unusedVariables false
set_option maxRecDepth 20000
set_option linter.unusedSimpArgs false

abbrev Ch := List (Nat × (AV → List HE → Prop))

def rst (E : Env) : List Nat → Env
 | [] => []
 | t :: r => match look E t with
  | some v => (t, v) :: rst E r
  | none => rst E r
theorem look_rst {E : Env} {t : Nat} {v : AV} : ∀ {ts : List Nat}, look (rst E ts) t = some v → t ∈ ts ∧ look E t = some v
 | [], h => by cases h
 | s :: r, h => by
  unfold rst at h
  split at h
  ·rename_i w hw
   unfold look at h
   cases hb : Nat.beq s t with
   | true =>
    rw [hb] at h
    cases h
    have := Nat.eq_of_beq_eq_true hb
    subst this
    exact ⟨List.mem_cons_self .., hw⟩
   | false =>
    rw [hb] at h
    obtain ⟨h1, h2⟩ := look_rst h
    exact ⟨List.mem_cons_of_mem _ h1, h2⟩
  ·obtain ⟨h1, h2⟩ := look_rst h
   exact ⟨List.mem_cons_of_mem _ h1, h2⟩
theorem look_app {A B : Env} {t : Nat} {v : AV} (h : look (A ++ B) t = some v) : look A t = some v ∨ (look A t = none ∧ look B t = some v) := by
 induction A with
 | nil => exact .inr ⟨rfl, h⟩
 | cons p r ih =>
  rw [List.cons_append] at h
  simp only [look] at h ⊢
  cases hb : Nat.beq p.1 t with
  | true => rw [hb] at h; exact .inl h
  | false => rw [hb] at h; exact ih h
theorem look_map {D : Nat → Nat} {v : Nat → AV} {t : Nat} {w : AV} : ∀ {is : List Nat}, look (is.map fun i => (D i, v i)) t = some w → ∃ i ∈ is, D i = t ∧ w = v i
 | [], h => by cases h
 | i :: r, h => by
  rw [List.map_cons] at h
  unfold look at h
  cases hb : Nat.beq (D i) t with
  | true => rw [hb] at h; cases h; exact ⟨i, List.mem_cons_self .., Nat.eq_of_beq_eq_true hb, rfl⟩
  | false =>
   rw [hb] at h
   obtain ⟨j, h1, h2⟩ := look_map h
   exact ⟨j, List.mem_cons_of_mem _ h1, h2⟩
theorem look_map_none {D : Nat → Nat} {v : Nat → AV} {t : Nat} : ∀ {is : List Nat}, look (is.map fun i => (D i, v i)) t = none → ∀ i ∈ is, D i ≠ t
 | [], _, i, hi => by cases hi
 | j :: r, h, i, hi => by
  rw [List.map_cons] at h
  unfold look at h
  cases hb : Nat.beq (D j) t with
  | true => rw [hb] at h; cases h
  | false =>
   rw [hb] at h
   rcases List.mem_cons.1 hi with rfl | hi
   ·intro e; rw [e] at hb; simp at hb
   ·exact look_map_none h i hi

def FA (P : Program) (N : Nat) (ops : Array Oper) (E0 : Env) (H0 : List HE) (K : Env → Ch → Prop) : Env → Ch → List Oper → Prop
  | ex, nx, [] => K ex nx
  | ex, nx, o :: rest => ∃ d, o.dst = some d ∧ d < N ∧ (nx.all fun p => !(o.looksAt ops).contains p.1) = true ∧
      ((∃ v, OpF P N ops o (rst (ex ++ E0) (o.looksAt ops)) H0 (Is v) ∧ FA P N ops E0 H0 K ((d, v) :: ex) nx rest) ∨
       (∃ Φ, OpF P N ops o (rst (ex ++ E0) (o.looksAt ops)) H0 Φ ∧ FA P N ops E0 H0 K ex ((d, Φ) :: nx) rest))

def chosen : Ch → (Env → List HE → Prop) → Prop
 | [], F => F [] []
 | (d, Φ) :: r, F => ∀ v Hn, Φ v Hn → chosen r fun E H => F ((d, v) :: E) (Hn ++ H)
theorem chosen_map {D : Nat → Nat} {Ψ : Nat → AV → List HE → Prop} {v : Nat → AV} {Hn : Nat → List HE} : ∀ {is : List Nat} {F : Env → List HE → Prop}, chosen (is.map fun i => (D i, Ψ i)) F → (∀ i ∈ is, Ψ i (v i) (Hn i)) → F (is.map fun i => (D i, v i)) (is.flatMap Hn)
 | [], F, h, _ => h
 | i :: r, F, h, hi => by
  rw [List.map_cons] at h
  exact chosen_map (is := r) (h (v i) (Hn i) (hi i (List.mem_cons_self ..))) fun j hj => hi j (List.mem_cons_of_mem _ hj)

def idx (p : Nat → Bool) (n : Nat) : List Nat := ((List.range n).filter p).reverse
theorem mem_idx {p : Nat → Bool} {n i : Nat} : i ∈ idx p n ↔ i < n ∧ p i = true := by simp [idx]
theorem idx_succ (p : Nat → Bool) (n : Nat) : idx p (n + 1) = if p n = true then n :: idx p n else idx p n := by
 unfold idx
 rw [List.range_succ, List.filter_append]
 by_cases h : p n = true <;> simp [h]
theorem idx_congr {p q : Nat → Bool} {n : Nat} (h : ∀ i, i < n → p i = q i) : idx p n = idx q n := by
 unfold idx
 congr 1
 exact List.filter_congr fun i hi => h i (List.mem_range.1 hi)
theorem map_idx_congr {α : Type} {p q : Nat → Bool} {f g : Nat → α} {n : Nat} (h : ∀ i, i < n → p i = q i) (h' : ∀ i, i < n → f i = g i) : (idx p n).map f = (idx q n).map g := by
 rw [idx_congr h]
 exact List.map_congr_left fun i hi => h' i (mem_idx.1 hi).1
theorem idx_nodup (p : Nat → Bool) (n : Nat) : (idx p n).Pairwise (· ≠ ·) := by
 unfold idx
 rw [List.pairwise_reverse]
 have : ((List.range n).filter p).Pairwise (· ≠ ·) := (List.nodup_range (n := n)).sublist List.filter_sublist
 exact this.imp fun h => h.symm

section
variable {P : Program} {N : Nat} {ops : Array Oper} {E0 : Env} {H0 : List HE}

structure Facts (P : Program) (N : Nat) (ops : Array Oper) (E0 : Env) (H0 : List HE) (D : Nat → Nat) (X : Nat → Bool) (V : Nat → AV) (Ψ : Nat → AV → List HE → Prop) (i : Nat) (o : Oper) : Prop where
 dst : o.dst = some (D i)
 lt : D i < N
 exact : X i = true → Ψ i = Is (V i)
 far : ∀ j, j < i → X j = false → D j ∉ o.looksAt ops
 run : OpF P N ops o (rst ((idx X i).map (fun i => (D i, V i)) ++ E0) (o.looksAt ops)) H0 (Ψ i)

theorem fa_facts {K : Env → Ch → Prop} : ∀ (l : List Oper) (k : Nat) (D : Nat → Nat) (X : Nat → Bool) (V : Nat → AV) (Ψ : Nat → AV → List HE → Prop),
  (∀ j, l[j]? = if j < l.length then ops[k + j]? else none) → FA P N ops E0 H0 K ((idx X k).map fun i => (D i, V i)) ((idx (fun i => !X i) k).map fun i => (D i, Ψ i)) l →
  ∃ (D' : Nat → Nat) (X' : Nat → Bool) (V' : Nat → AV) (Ψ' : Nat → AV → List HE → Prop), (∀ i, i < k → D' i = D i ∧ X' i = X i ∧ V' i = V i ∧ Ψ' i = Ψ i) ∧
   K ((idx X' (k + l.length)).map fun i => (D' i, V' i)) ((idx (fun i => !X' i) (k + l.length)).map fun i => (D' i, Ψ' i)) ∧
   ∀ i, k ≤ i → i < k + l.length → ∀ o, ops[i]? = some o → Facts P N ops E0 H0 D' X' V' Ψ' i o
 | [], k, D, X, V, Ψ, _, h => ⟨D, X, V, Ψ, fun _ _ => ⟨rfl, rfl, rfl, rfl⟩, h, fun i h1 h2 => by simp at h2; omega⟩
 | o :: rest, k, D, X, V, Ψ, hl, h => by
  obtain ⟨d, hd, hdN, hnx, h⟩ := h
  have h0 : ops[k]? = some o := by have := hl 0; simpa using this.symm
  have hl' : ∀ j, rest[j]? = if j < rest.length then ops[k + 1 + j]? else none := fun j => by have := hl (j + 1); simpa [Nat.add_assoc, Nat.add_comm 1 j] using this
  have hfar : ∀ j, j < k → X j = false → D j ∉ o.looksAt ops := fun j hj hx hm => by
   have := List.all_eq_true.1 hnx (D j, Ψ j) (List.mem_map.2 ⟨j, mem_idx.2 ⟨hj, by simp [hx]⟩, rfl⟩)
   simp at this
   exact this hm
  have step : ∀ (x : Bool) (v : AV) (Φ : AV → List HE → Prop), (x = true → Φ = Is v) → OpF P N ops o (rst ((idx X k).map (fun i => (D i, V i)) ++ E0) (o.looksAt ops)) H0 Φ →
    FA P N ops E0 H0 K ((idx (fun i => if i = k then x else X i) (k + 1)).map fun i => ((fun i => if i = k then d else D i) i, (fun i => if i = k then v else V i) i)) ((idx (fun i => !(fun i => if i = k then x else X i) i) (k + 1)).map fun i => ((fun i => if i = k then d else D i) i, (fun i => if i = k then Φ else Ψ i) i)) rest →
    ∃ (D' : Nat → Nat) (X' : Nat → Bool) (V' : Nat → AV) (Ψ' : Nat → AV → List HE → Prop), (∀ i, i < k → D' i = D i ∧ X' i = X i ∧ V' i = V i ∧ Ψ' i = Ψ i) ∧
     K ((idx X' (k + (o :: rest).length)).map fun i => (D' i, V' i)) ((idx (fun i => !X' i) (k + (o :: rest).length)).map fun i => (D' i, Ψ' i)) ∧
     ∀ i, k ≤ i → i < k + (o :: rest).length → ∀ o, ops[i]? = some o → Facts P N ops E0 H0 D' X' V' Ψ' i o := by
   intro x v Φ hx hop hfa
   obtain ⟨D', X', V', Ψ', hs, hK, hall⟩ := fa_facts rest (k + 1) (fun i => if i = k then d else D i) (fun i => if i = k then x else X i) (fun i => if i = k then v else V i) (fun i => if i = k then Φ else Ψ i) hl' hfa
   have hk := hs k (by omega)
   simp only [if_true] at hk
   have hlt : ∀ i, i < k → D' i = D i ∧ X' i = X i ∧ V' i = V i ∧ Ψ' i = Ψ i := fun i hi => by
    have := hs i (by omega)
    have hne : i ≠ k := by omega
    simpa [hne] using this
   refine ⟨D', X', V', Ψ', hlt, by rw [show k + (o :: rest).length = k + 1 + rest.length by simp; omega]; exact hK, fun i h1 h2 o' ho' => ?_⟩
   by_cases hik : i = k
   ·subst hik
    obtain rfl : o = o' := by rw [h0] at ho'; exact Option.some.inj ho'
    refine ⟨by rw [hd, hk.1], by rw [hk.1]; exact hdN, fun hX => ?_, fun j hj hxj => ?_, ?_⟩
    ·rw [hk.2.2.2, hk.2.2.1]; exact hx (by rw [← hk.2.1]; exact hX)
    ·rw [(hlt j hj).1]; exact hfar j hj (by rw [← (hlt j hj).2.1]; exact hxj)
    ·rw [hk.2.2.2, map_idx_congr (q := X) (g := fun i => (D i, V i)) (fun j hj => (hlt j hj).2.1) (fun j hj => by rw [(hlt j hj).1, (hlt j hj).2.2.1])]
     exact hop
   ·exact hall i (by omega) (by simp at h2; omega) o' ho'
  rcases h with ⟨v, hop, hfa⟩ | ⟨Φ, hop, hfa⟩
  ·refine step true v (Is v) (fun _ => rfl) hop ?_
   rw [idx_succ, if_pos (by simp), idx_succ, if_neg (by simp), List.map_cons,
    map_idx_congr (q := X) (g := fun i => (D i, V i)) (fun j hj => by simp [show j ≠ k by omega]) (fun j hj => by simp [show j ≠ k by omega]),
    map_idx_congr (q := fun i => !X i) (g := fun i => (D i, Ψ i)) (fun j hj => by simp [show j ≠ k by omega]) (fun j hj => by simp [show j ≠ k by omega])]
   simpa using hfa
  ·refine step false (.val undef) Φ (fun h => by cases h) hop ?_
   rw [idx_succ, if_neg (by simp), idx_succ, if_pos (by simp), List.map_cons,
    map_idx_congr (q := X) (g := fun i => (D i, V i)) (fun j hj => by simp [show j ≠ k by omega]) (fun j hj => by simp [show j ≠ k by omega]),
    map_idx_congr (q := fun i => !X i) (g := fun i => (D i, Ψ i)) (fun j hj => by simp [show j ≠ k by omega]) (fun j hj => by simp [show j ≠ k by omega])]
   simpa using hfa

theorem Anc.trans {i j k : Nat} (h : Anc ops i j) (h' : Anc ops j k) : Anc ops i k := by
 induction h with
 | self i => exact h'
 | step i j _ o e ho he hb hj _ ih => exact .step i j k o e ho he hb hj (ih h')

/-- What is known of operation i's yield. -/
def Phi (ops : Array Oper) (w0 : World) (R : Nat → Prop) (X : Nat → Bool) (Ψ : Nat → AV → List HE → Prop) (i : Nat) : Pr2 := fun lo hi u W =>
 w0.heap.size ≤ W.heap.size ∧ ∃ v Hn R1, Ψ i v Hn ∧ (∀ b, R b → R1 b) ∧ (∀ b, R1 b → R b ∨ ∃ k, Anc ops i k ∧ (X k = true ∨ k = i) ∧ lo k ≤ b ∧ b < hi k) ∧ RelV R1 W v u ∧
  (∀ e ∈ Hn, e.ok R1 W ∧ ∀ b, e.foot b → lo i ≤ b ∧ b < hi i ∧ ¬ R1 b) ∧ Hn.Pairwise Disj

theorem AW.regionD {Γ : Cx} {Q : Exit → Act → World → Prop} {E : Env} {H : List HE} {id : Nat} {l : List Oper} (n : Nat) (hm : P.follows .mixedOrders = true) (hok : flowOk2 l.toArray n = true)
  (h : FA P Γ.N l.toArray E H (fun ex nx => chosen nx fun E' H' => AO Γ P l.toArray Q (l.drop n) (E' ++ (ex ++ E)) (H' ++ H)) [] [] (l.take n)) : AW Γ P Q (.region id l.toArray true) E H := fun R a W hs0 ha0 => by
 have hn : n ≤ l.length := by
  simp only [flowOk2, Bool.and_eq_true, decide_eq_true_eq] at hok
  simpa using hok.1
 have hlen : (l.take n).length = n := by simp [hn]
 obtain ⟨D, X, V, Ψ, _, hK, hall⟩ := fa_facts (l.take n) 0 (fun _ => 0) (fun _ => true) (fun _ => .val undef) (fun _ _ _ => True) (fun j => by
  rw [hlen]
  by_cases hj : j < n
  ·simp [hj]
  ·rw [if_neg hj]; exact List.getElem?_eq_none (by rw [hlen]; omega)) h
 rw [Nat.zero_add, hlen] at hK
 have hfacts : ∀ i, i < n → ∀ o, l.toArray[i]? = some o → Facts P Γ.N l.toArray E H D X V Ψ i o := fun i hi o ho => hall i (Nat.zero_le _) (by rw [hlen]; omega) o ho
 clear hall
 have hback : ∀ i o, l.toArray[i]? = some o → ∀ e ∈ o.after, Region.binds .any e = true → e.on < i := fun i o ho e he hb => flow2_back (flowOk2_at hok ho) e he hb
 have hop : ∀ i, i < n → ∃ o, l.toArray[i]? = some o := fun i hi => ⟨l[i], by simp [show i < l.length by omega]⟩
 have hdist : ∀ i j, i < n → j < n → i ≠ j → D i ≠ D j := fun i j hi hj hne => by
  obtain ⟨oi, hoi⟩ := hop i hi
  obtain ⟨oj, hoj⟩ := hop j hj
  exact (flow2_pair (flowOk2_at hok hoj) hj hi hne hoi (hfacts i hi oi hoi).dst (hfacts j hj oj hoj).dst).1
 -- the world behind the draw
 have hs : RelS Γ R H W.drew := ⟨hs0.mods.drew, hs0.rlt, hs0.rsub, hs0.rnew, fun e he => HE.ok_mono (W := W) (W' := W.drew) (fun _ h => h) (fun _ _ => rfl) (Nat.le_refl _) (fun _ _ => rfl) (hs0.ok e he), hs0.own, hs0.disj⟩
 have ha : RelA Γ.N R W.drew E a := ha0.mono (fun _ h => h) (fun _ _ => rfl)
 have hRlt : ∀ b, R b → b < W.drew.heap.size := hs.rlt
 have hHlt : ∀ e ∈ H, ∀ b, e.foot b → b < W.drew.heap.size := fun e he b hb => HE.ok_lt (hs.ok e he) hb
 obtain ⟨w0, hw0⟩ : ∃ w0, w0 = W.drew := ⟨_, rfl⟩
 rw [← hw0] at hs ha hRlt hHlt
 have hflow : FlowAll2 P l.toArray w0 a n (Phi l.toArray w0 R X Ψ) D := by
  intro i hi o ho
  have hF := hfacts i hi o ho
  refine ⟨hF.dst, ?_, ?_, ?_⟩
  ·rintro lo hi' v W W' hb ⟨hle, v1, Hn, R1, h1, h2, h3, h4, h5, h6⟩ hE
   have hRW : ∀ b, R1 b → W'.heap[b]? = W.heap[b]? := fun b hb' => by
    refine hE.block b ?_ (fun hh => hh)
    rcases h3 b hb' with hr | ⟨k, hk, _, hk1, hk2⟩
    ·have := hRlt b hr; omega
    ·have := hb k hk; omega
   exact ⟨Nat.le_trans hle hE.size, v1, Hn, R1, h1, h2, h3, h4.mono (fun _ h => h) hRW, fun e he => ⟨HE.ok_mono (fun _ h => h) hRW hE.size (fun b hb' => hE.block b (HE.ok_lt (h5 e he).1 hb') (fun hh => hh)) (h5 e he).1, (h5 e he).2⟩, h6⟩
  ·rintro lo hi' lo' hi'' v W hag ⟨hle, v1, Hn, R1, h1, h2, h3, h4, h5, h6⟩
   refine ⟨hle, v1, Hn, R1, h1, h2, fun b hb => ?_, h4, fun e he => ⟨(h5 e he).1, fun b hb => ?_⟩, h6⟩
   ·rcases h3 b hb with hr | ⟨k, hk, hk0, hk1, hk2⟩
    ·exact .inl hr
    ·exact .inr ⟨k, hk, hk0, by rw [(hag k hk).1]; exact hk1, by rw [(hag k hk).2]; exact hk2⟩
   ·rw [(hag i (.self i)).1, (hag i (.self i)).2]; exact (h5 e he).2 b hb
  ·intro A W lo hi' hE hsz hdf hdeps hout
   let R2 : Nat → Prop := fun b => R b ∨ ∃ j, j < i ∧ D j ∈ o.looksAt l.toArray ∧ ∃ k, Anc l.toArray j k ∧ X k = true ∧ lo k ≤ b ∧ b < hi' k
   have hXj : ∀ j, j < i → D j ∈ o.looksAt l.toArray → X j = true := fun j hj hm' => by
    cases hx : X j with
    | true => rfl
    | false => exact absurd hm' (hF.far j hj hx)
   have hR2lt : ∀ b, R2 b → b < W.heap.size := by
    rintro b (hb | ⟨j, hj, hjm, k, hk, _, _, hk2⟩)
    ·exact Nat.lt_of_lt_of_le (hRlt b hb) hE.size
    ·have := ((hdeps j hj hjm).2.2 k hk).2; omega
   have hRW : ∀ b, R b → W.heap[b]? = w0.heap[b]? := fun b hb => hE.block b (hRlt b hb) (fun hh => hh)
   have hA : RelA Γ.N R2 W (rst ((idx X i).map (fun i => (D i, V i)) ++ E) (o.looksAt l.toArray)) A := by
    refine ⟨by rw [hdf]; exact ha.defers, by rw [hsz]; exact ha.size, fun t v ht => ?_⟩
    obtain ⟨htl, ht⟩ := look_rst ht
    rcases look_app ht with ht | ⟨htn, ht⟩
    ·obtain ⟨j, hj, rfl, rfl⟩ := look_map ht
     obtain ⟨hji, hjx⟩ := mem_idx.1 hj
     obtain ⟨-, ⟨-, -, -, -, v1, Hn, R1, h1, h2, h3, h4, -⟩, -⟩ := hdeps j hji htl
     obtain ⟨oj, hoj⟩ := hop j (by omega)
     rw [(hfacts j (by omega) oj hoj).exact hjx] at h1
     obtain ⟨rfl, -⟩ := h1
     refine h4.mono (fun b hb => ?_) (fun _ _ => rfl)
     rcases h3 b hb with hr | ⟨k, hk, hk0, hk1, hk2⟩
     ·exact .inl hr
     ·refine .inr ⟨j, hji, htl, k, hk, ?_, hk1, hk2⟩
      rcases hk0 with hk0 | rfl
      ·exact hk0
      ·exact hjx
    ·rw [hout t htl fun j hj e => ?_]
     ·exact (ha.slots t v ht).mono (fun b hb => .inl hb) hRW
     ·exact look_map_none htn j (mem_idx.2 ⟨hj, hXj j hj (e ▸ htl)⟩) e
   have hrun := hF.run R2 A W hR2lt (fun e he => HE.ok_mono (fun b hb => .inl hb) hRW hE.size (fun b hb => hE.block b (hHlt e he b hb) (fun hh => hh)) (hs.ok e he)) (fun e he b hb hr => by
    rcases hr with hr | ⟨j, hj, hjm, k, hk, _, hk1, _⟩
    ·exact (hs.own e he b hb).2 hr
    ·have h1 := ((hdeps j hj hjm).2.2 k hk).1
     have h2 := hHlt e he b hb
     omega) hA
   have post : ∀ u W', (∃ v Hn R', Ψ i v Hn ∧ Post1 R2 W v Hn u W' R') → Ext W W' ∧ ∀ lo2 hi2 : Nat → Nat, lo2 i = W.heap.size → hi2 i = W'.heap.size → (∀ k, k ≠ i → lo2 k = lo k ∧ hi2 k = hi' k) → Phi l.toArray w0 R X Ψ i lo2 hi2 u W' := by
    rintro u W' ⟨v, Hn, R', hΨ, p⟩
    refine ⟨p.ext, fun lo2 hi2 e1 e2 e3 => ⟨Nat.le_trans hE.size p.ext.size, v, Hn, R', hΨ, fun b hb => p.sub b (.inl hb), fun b hb => ?_, p.val, fun e he => ⟨(p.ok e he).1, fun b hb => ?_⟩, p.disj⟩⟩
    ·rcases p.new b hb with (hr | ⟨j, hj, hjm, k, hk, hk0, hk1, hk2⟩) | ⟨h1, h2⟩
     ·exact .inl hr
     ·have hki : k ≠ i := by have := anc_le hback hk; omega
      refine .inr ⟨k, (hdeps j hj hjm).1.trans hk, .inl hk0, ?_, ?_⟩
      ·rw [(e3 k hki).1]; exact hk1
      ·rw [(e3 k hki).2]; exact hk2
     ·exact .inr ⟨i, .self i, .inr rfl, by rw [e1]; exact h1, by rw [e2]; exact h2⟩
    ·obtain ⟨h1, h2⟩ := (p.ok e he).2 b hb
     exact ⟨by rw [e1]; exact h1, by rw [e2]; exact HE.ok_lt (p.ok e he).1 hb, h2⟩
   unfold FStep at hrun ⊢
   split
   ·rename_i hw
    rw [if_pos hw] at hrun
    refine Oper.wp_mono ?_ hrun
    rintro A' W' ⟨u, rfl, hp⟩
    exact ⟨u, rfl, post u W' hp⟩
   ·rename_i hw
    rw [if_neg hw] at hrun
    exact post _ _ hrun
 refine wp_region_any hm (wpAny_flow2 (n := n) (Φ := Phi l.toArray w0 R X Ψ) (D := D) (w0 := w0) (a := a) hok (by simpa using hn) (fun i hi => by
   obtain ⟨o, ho⟩ := hop i hi
   rw [ha.size]; exact (hfacts i hi o ho).lt) hflow ?_ _ _ _ _ ?_ ⟨by simp, ?_, ?_, by rw [hw0]; exact Mods.refl _ _, rfl, rfl, ⟨fun _ => 0, fun _ => 0, ?_, ?_⟩, fun _ _ => rfl⟩)
 ·intro A W lo hi hE hsz hdf hgood hdis hout
  have hex : ∀ i : Nat, ∃ q : AV × List HE × (Nat → Prop), i < n → Ψ i q.1 q.2.1 ∧ (∀ b, R b → q.2.2 b) ∧ (∀ b, q.2.2 b → R b ∨ ∃ k, k < n ∧ (X k = true ∨ k = i) ∧ lo k ≤ b ∧ b < hi k) ∧ RelV q.2.2 W q.1 (A.eval (.tmp (D i))) ∧
    (∀ e ∈ q.2.1, e.ok q.2.2 W ∧ ∀ b, e.foot b → lo i ≤ b ∧ b < hi i ∧ ¬ q.2.2 b) ∧ q.2.1.Pairwise Disj := fun i => by
   by_cases hi' : i < n
   ·obtain ⟨-, -, -, -, v, Hn, R1, h1, h2, h3, h4, h5, h6⟩ := hgood i hi'
    refine ⟨(v, Hn, R1), fun _ => ⟨h1, h2, fun b hb => ?_, h4, h5, h6⟩⟩
    rcases h3 b hb with hr | ⟨k, hk, hk0, hk1, hk2⟩
    ·exact .inl hr
    ·exact .inr ⟨k, by have := anc_le hback hk; omega, hk0, hk1, hk2⟩
   ·exact ⟨(.val undef, [], R), fun h => absurd h hi'⟩
  obtain ⟨f, hf⟩ := Classical.axiomOfChoice hex
  have hlo : ∀ i, i < n → w0.heap.size ≤ lo i ∧ lo i ≤ hi i ∧ hi i ≤ W.heap.size := fun i hi' => ⟨(hgood i hi').1, (hgood i hi').2.1, (hgood i hi').2.2.1⟩
  have hV : ∀ i, i < n → X i = true → (f i).1 = V i ∧ (f i).2.1 = [] := fun i hi' hx => by
   obtain ⟨o, ho⟩ := hop i hi'
   have := (hf i hi').1
   rw [(hfacts i hi' o ho).exact hx] at this
   exact this
  have hAO := chosen_map (v := fun i => (f i).1) (Hn := fun i => (f i).2.1) hK (fun i hi' => (hf i (mem_idx.1 hi').1).1)
  let R3 : Nat → Prop := fun b => R b ∨ ∃ i, i < n ∧ (f i).2.2 b
  have hR3 : ∀ b, R3 b → R b ∨ ∃ k, k < n ∧ lo k ≤ b ∧ b < hi k := by
   rintro b (hb | ⟨i, hi', hb⟩)
   ·exact .inl hb
   ·rcases (hf i hi').2.2.1 b hb with hr | ⟨k, hk, _, hk1, hk2⟩
    ·exact .inl hr
    ·exact .inr ⟨k, hk, hk1, hk2⟩
  have hRW : ∀ b, R b → W.heap[b]? = w0.heap[b]? := fun b hb => hE.block b (hRlt b hb) (fun hh => hh)
  have hHW : ∀ e ∈ H, ∀ b, e.foot b → W.heap[b]? = w0.heap[b]? := fun e he b hb => hE.block b (hHlt e he b hb) (fun hh => hh)
  have hnew : ∀ e ∈ (idx (fun i => !X i) n).flatMap (fun i => (f i).2.1), ∃ i, i < n ∧ X i = false ∧ e ∈ (f i).2.1 := fun e he => by
   obtain ⟨i, hi', he⟩ := List.mem_flatMap.1 he
   obtain ⟨h1, h2⟩ := mem_idx.1 hi'
   exact ⟨i, h1, by simpa using h2, he⟩
  have hfoot : ∀ i, i < n → ∀ e ∈ (f i).2.1, ∀ b, e.foot b → lo i ≤ b ∧ b < hi i ∧ ¬ (f i).2.2 b := fun i hi' e he b hb => ((hf i hi').2.2.2.2.1 e he).2 b hb
  refine hAO R3 A W ⟨hs.mods.trans hE.any, ?_, fun b hb => .inl (hs.rsub b hb), ?_, ?_, ?_, ?_⟩ ⟨by rw [hdf]; exact ha.defers, by rw [hsz]; exact ha.size, ?_⟩
  ·intro b hb
   rcases hR3 b hb with hb | ⟨k, hk, _, hk2⟩
   ·exact Nat.lt_of_lt_of_le (hRlt b hb) hE.size
   ·have := (hlo k hk).2.2; omega
  ·intro b hb
   rcases hR3 b hb with hb | ⟨k, hk, hk1, _⟩
   ·exact hs.rnew b hb
   ·have h1 := (hlo k hk).1
    have h2 := hs.mods.size
    exact .inr (.inl (by omega))
  ·intro e he
   rcases List.mem_append.1 he with he | he
   ·obtain ⟨i, hi', _, he⟩ := hnew e he
    exact HE.ok_mono (fun b hb => .inr ⟨i, hi', hb⟩) (fun _ _ => rfl) (Nat.le_refl _) (fun _ _ => rfl) ((hf i hi').2.2.2.2.1 e he).1
   ·exact HE.ok_mono (fun b hb => .inl hb) hRW hE.size (hHW e he) (hs.ok e he)
  ·intro e he b hb
   rcases List.mem_append.1 he with he | he
   ·obtain ⟨i, hi', hxi, he⟩ := hnew e he
    obtain ⟨h1, h2, h3⟩ := hfoot i hi' e he b hb
    refine ⟨.inl (by have := (hlo i hi').1; have := hs.mods.size; omega), ?_⟩
    rintro (hr | ⟨j, hj, hr⟩)
    ·have := hRlt b hr; have := (hlo i hi').1; omega
    ·by_cases hji : j = i
     ·subst hji; exact h3 hr
     ·rcases (hf j hj).2.2.1 b hr with hr | ⟨k, hk, hk0, hk1, hk2⟩
      ·have := hRlt b hr; have := (hlo i hi').1; omega
      ·have hki : k ≠ i := by
        rcases hk0 with hk0 | rfl
        ·intro e; rw [e, hxi] at hk0; cases hk0
        ·exact hji
       rcases hdis k i hk hi' hki with h | h <;> omega
   ·refine ⟨(hs.own e he b hb).1, fun hr => ?_⟩
    rcases hR3 b hr with hr | ⟨k, hk, hk1, _⟩
    ·exact (hs.own e he b hb).2 hr
    ·have := (hlo k hk).1; have := hHlt e he b hb; omega
  ·rw [List.pairwise_append]
   refine ⟨?_, hs.disj, fun e he g hg b hb hb' => ?_⟩
   ·rw [List.pairwise_flatMap]
    refine ⟨fun i hi' => (hf i (mem_idx.1 hi').1).2.2.2.2.2, ?_⟩
    refine (idx_nodup _ n).imp_of_mem fun {i j} hi' hj hij x hx y hy b hb hb' => ?_
    have h1 := hfoot i (mem_idx.1 hi').1 x hx b hb
    have h2 := hfoot j (mem_idx.1 hj).1 y hy b hb'
    rcases hdis i j (mem_idx.1 hi').1 (mem_idx.1 hj).1 hij with h | h <;> omega
   ·obtain ⟨i, hi', _, he⟩ := hnew e he
    have h1 := (hfoot i hi' e he b hb).1
    have h2 := hHlt g hg b hb'
    have h3 := (hlo i hi').1
    omega
  ·intro t v ht
   rcases look_app ht with ht | ⟨htn, ht⟩
   ·obtain ⟨i, hi', rfl, rfl⟩ := look_map ht
    exact ((hf i (mem_idx.1 hi').1).2.2.2.1).mono (fun b hb => .inr ⟨i, (mem_idx.1 hi').1, hb⟩) (fun _ _ => rfl)
   ·rcases look_app ht with ht | ⟨htn2, ht⟩
    ·obtain ⟨i, hi', rfl, rfl⟩ := look_map ht
     obtain ⟨h1, h2⟩ := mem_idx.1 hi'
     rw [← (hV i h1 h2).1]
     exact ((hf i h1).2.2.2.1).mono (fun b hb => .inr ⟨i, h1, hb⟩) (fun _ _ => rfl)
    ·rw [hout t fun i hi' e => ?_]
     ·exact (ha.slots t v ht).mono (fun b hb => .inl hb) hRW
     ·cases hx : X i with
      | true => exact look_map_none htn2 i (mem_idx.2 ⟨hi', hx⟩) e
      | false => exact look_map_none htn i (mem_idx.2 ⟨hi', by simp [hx]⟩) e
 ·simp
 ·intro i hi
  by_cases h : i < l.length <;> simp [Array.getD, h]
 ·intro i o hl
  by_cases h : i < l.length <;> simp [Array.getD, h] at hl
 ·intro i hi hl
  by_cases h : i < l.length <;> simp [Array.getD, h] at hl
 ·intro i j hi hj hne hl
  by_cases h : i < l.length <;> simp [Array.getD, h] at hl

/-! One operation of the head. -/
section
variable {K : Env → Ch → Prop} {ex : Env} {nx : Ch} {rest : List Oper} {o : Oper}
theorem FA.op {d : Nat} {v : AV} (h : OpW P N o (rst (ex ++ E0) (o.looksAt ops)) H0 (Is v)) (hw : wantedIs ops (rst (ex ++ E0) (o.looksAt ops)) o = some true) (hd : o.dst = some d) (hN : Nat.ble (d + 1) N = true) (hnx : (nx.all fun p => !(o.looksAt ops).contains p.1) = true) (k : FA P N ops E0 H0 K ((d, v) :: ex) nx rest) :
  FA P N ops E0 H0 K ex nx (o :: rest) := ⟨d, hd, Nat.le_of_ble_eq_true hN, hnx, .inl ⟨v, .run hw h, k⟩⟩
theorem FA.opN {d : Nat} {Φ : AV → List HE → Prop} (h : OpW P N o (rst (ex ++ E0) (o.looksAt ops)) H0 Φ) (hw : wantedIs ops (rst (ex ++ E0) (o.looksAt ops)) o = some true) (hd : o.dst = some d) (hN : Nat.ble (d + 1) N = true) (hnx : (nx.all fun p => !(o.looksAt ops).contains p.1) = true) (k : FA P N ops E0 H0 K ex ((d, Φ) :: nx) rest) :
  FA P N ops E0 H0 K ex nx (o :: rest) := ⟨d, hd, Nat.le_of_ble_eq_true hN, hnx, .inr ⟨Φ, .run hw h, k⟩⟩
theorem FA.opG {d : Nat} {c : Bool} {v : AV} (hw : guardIs ops (rst (ex ++ E0) (o.looksAt ops)) o = some c) (hd : o.dst = some d) (hN : Nat.ble (d + 1) N = true) (hnx : (nx.all fun p => !(o.looksAt ops).contains p.1) = true) (h : c = true → OpW P N o (rst (ex ++ E0) (o.looksAt ops)) H0 (Is v)) (k : FA P N ops E0 H0 K ((d, .opt c v) :: ex) nx rest) :
  FA P N ops E0 H0 K ex nx (o :: rest) := ⟨d, hd, Nat.le_of_ble_eq_true hN, hnx, .inl ⟨_, .opt hw h, k⟩⟩
theorem FA.no {d : Nat} (hw : wantedIs ops (rst (ex ++ E0) (o.looksAt ops)) o = some false) (hd : o.dst = some d) (hN : Nat.ble (d + 1) N = true) (hnx : (nx.all fun p => !(o.looksAt ops).contains p.1) = true) (k : FA P N ops E0 H0 K ((d, .val undef) :: ex) nx rest) :
  FA P N ops E0 H0 K ex nx (o :: rest) := ⟨d, hd, Nat.le_of_ble_eq_true hN, hnx, .inl ⟨_, .no hw, k⟩⟩
theorem FA.nil (k : K ex nx) : FA P N ops E0 H0 K ex nx [] := k
end
end
end Go.Proofs.YtoonnnifelnaiaaGreatDoor.A

namespace Go.Proofs.YtoonnnifelnaiaaGreatDoor.A
open Go.RowKit L
set_option linter.unusedVariables false
set_option maxRecDepth 20000
set_option linter.unusedSimpArgs false

def bytesA (l : List UInt8) : List AV := l.map fun b => .val (.int .u8 (b.toNat : Int))
def roB (l : List UInt8) : AV := .ro false l.length (bytesA l)
def intsA (k : IntKind) (l : List Int) : List AV := l.map fun z => .val (.int k z)
def roI (l : List Int) : AV := .ro false l.length (intsA .i64 l)
@[simp] theorem bytesA_length (l : List UInt8) : (bytesA l).length = l.length := by simp [bytesA]
@[simp] theorem intsA_length (k : IntKind) (l : List Int) : (intsA k l).length = l.length := by simp [intsA]
@[simp] theorem bytesA_one (l : List UInt8) : (bytesA l).all AV.one = true := by simp [bytesA, AV.one, Value.oneCell']
@[simp] theorem intsA_one (k : IntKind) (l : List Int) : (intsA k l).all AV.one = true := by simp [intsA, AV.one, Value.oneCell']
@[simp] theorem bytesA_app (l m : List UInt8) : bytesA (l ++ m) = bytesA l ++ bytesA m := by simp [bytesA]
@[simp] theorem intsA_app (k : IntKind) (l m : List Int) : intsA k (l ++ m) = intsA k l ++ intsA k m := by simp [intsA]

def strOf (l : List UInt8) : ByteArray := ⟨l.toArray⟩
theorem strOf_toList (l : List UInt8) : (strOf l).toList = l := by rw [ByteArray.toList_eq]; simp [strOf]

section
variable {Γ : Cx} {P : Program} {Q : Exit → Act → World → Prop} {E : Env} {H : List HE} {N : Nat} {o : Oper} {ops : Array Oper} {rest : List Oper}

theorem rel_bytes {R : Nat → Prop} {W : World} {l : List UInt8} {us : Nat → Value} (h : ∀ j (h : j < (bytesA l).length), RelV R W (bytesA l)[j] (us j)) : ∀ j (hj : j < l.length), us j = .int .u8 (l[j].toNat : Int) := fun j hj => by
 have := h j (by simpa using hj)
 simp only [bytesA, List.getElem_map] at this
 exact this.val_inv

theorem foldl_strOf (l : List UInt8) : (l.map fun b => ((b.toNat : Nat) : Int)).foldl (fun r n => r.push (UInt8.ofNat n.toNat)) ByteArray.empty = strOf l := by
 have key : ∀ (l : List UInt8) (r : ByteArray), ((l.map fun b => ((b.toNat : Nat) : Int)).foldl (fun r n => r.push (UInt8.ofNat n.toNat)) r).data = r.data ++ l.toArray := by
  intro l
  induction l with
  | nil => intro r; simp
  | cons b l ih =>
   intro r
   rw [List.map_cons, List.foldl_cons, ih]
   simp [ByteArray.push]
 have := key l ByteArray.empty
 cases h : (l.map fun b => ((b.toNat : Nat) : Int)).foldl (fun r n => r.push (UInt8.ofNat n.toNat)) ByteArray.empty with
 | mk d =>
  rw [h] at this
  simp at this
  simp [strOf, this]

/-- string(b) -/
theorem O.convS {S T U : Nat} {x : Operand} {full : Bool} {n : Nat} {xs : List AV} {l : List UInt8} [hS : TyD P S (.slice U)] [hU : TyD P U (.int .u8)] [hT : TyD P T .string] (ho : o.op = .convert S T x) (hx : ev E x = some (.ro full n xs)) (hl : AV.ro full n xs = .ro full l.length (bytesA l)) :
  OpW P N o E H (Is (.val (.string (strOf l)))) := .of_run fun R a W h1 h2 ha => by
 have hv := ha.ev hx
 rw [hl] at hv
 generalize hu : a.eval x = u at *
 refine ⟨.string (strOf l), ?_, .val _⟩
 generalize hn : l.length = n' at hv
 generalize hb : bytesA l = ys at hv
 cases hv with
 | emp _ ad cap h3 h4 =>
  have : l = [] := List.eq_nil_of_length_eq_zero hn
  subst this
  cases ad with
  | none => simp [execOp, ho, hu, convert, run_underlying hS.ax, run_underlying hT.ax, run_underlying hU.ax, Conv.bytesToString, strOf]; rfl
  | some ad =>
   simp only [execOp, ho, hu]
   rw [Sem.run_bind, run_convert_bytes_string W S T U _ 0 cap hS.ax hU.ax hT.ax, run_bytesToString W ad 0 cap [] (by simp [loadCells, loadCellsFrom])]
   simp [strOf]; rfl
 | ro _ _ _ b off cap us hb' hc hr h3 h4 h5 =>
  subst hb
  have hus := rel_bytes hr
  have hld : (loadCells ⟨b, off, none⟩ n').run P W = .ok ((l.map fun b => ((b.toNat : Nat) : Int)).map (Value.int .u8)).toArray W := by
   have := run_loadCells_list (P := P) W ⟨b, off, none⟩ ((l.map fun b => ((b.toNat : Nat) : Int)).map (Value.int .u8)) (fun j v hj => by
    obtain ⟨h6, rfl⟩ := List.getElem?_eq_some_iff.1 hj
    simp at h6
    rw [addr_add, hc j (by simpa using h6), hus j h6]
    simp)
   simpa [hn] using this
  simp only [execOp, ho, hu]
  rw [Sem.run_bind, run_convert_bytes_string W S T U _ n' cap hS.ax hU.ax hT.ax, run_bytesToString W _ n' cap _ hld, foldl_strOf]
  rfl

/-- A slice against nil. -/
def IsNil (n : Nat) (pos : Bool) : AV → List HE → Prop := fun v Hn => ∃ c : Bool, v = .val (.bool c) ∧ Hn = [] ∧ ((c == pos) = true → n = 0)
theorem O.eqlNil {T T' U : Nat} {x y : Operand} {full : Bool} {n : Nat} {xs : List AV} [hT : TyD P T (.slice U)] (ho : o.op = .binOp .eql T x y T') (hx : ev E x = some (.ro full n xs)) (hy : ev E y = some (.val (.slice none 0 0))) : OpW P N o E H (IsNil n true) := fun R a W h1 h2 h3 ha => by
 have hv := ha.ev hx
 generalize hu : a.eval x = u at *
 have hyv := (ha.ev hy).val_inv
 have hg : ∀ ad m c, (eqGuard .eql T x y (.slice ad m c) (.slice none 0 0)).run P W = .ok () W := fun ad m c => by unfold eqGuard; split <;> first | rfl | contradiction
 have key : ∀ ad m c, (execOp a.eval o).run P W = .ok (.value (.bool (Option.isNone (α := Addr) ad))) W ∨ u ≠ .slice ad m c := fun ad m c => by
  by_cases hs : u = .slice ad m c
  ·subst hs
   refine .inl ?_
   simp only [execOp, ho, hu, hyv]
   rw [Sem.run_bind, Sem.run_bind, hg]
   show Result.andThen ((binOp .eql T (.slice ad m c) (.slice none 0 0)).run P W) _ = _
   have := _root_.Go.Lib.run_eql_slice_nil (P := P) W T U ad m c 0 0 hT.ax
   rw [this]; rfl
  ·exact .inr hs
 have fin : ∀ ad m c, u = .slice ad m c → (ad = none → n = 0) → o.wp P a W (fun A' W' => ∃ u v Hn R', A' = a.put o.dst u ∧ IsNil n true v Hn ∧ Post1 R W v Hn u W' R') NoQ := fun ad m c he h0 => by
  rcases key ad m c with hr | hne
  ·unfold Oper.wp
   rw [hr]
   refine ⟨_, .val (.bool ad.isNone), [], R, rfl, ⟨_, rfl, rfl, fun h => ?_⟩, Post1.same h1 (.val _)⟩
   cases ad with
   | none => exact h0 rfl
   | some _ => cases h
  ·exact absurd he hne
 cases hv with
 | emp _ ad cap h3 h4 => exact fin ad 0 cap rfl (fun _ => rfl)
 | ro _ _ _ b off cap us hb' hc hr h3 h4 h5 => exact fin _ _ _ rfl (fun h => by cases h)

/-- An empty literal. -/
theorem O.buildSlice0 {T U k bs : Nat} {z : Value} [hs : TyS P T U k bs z] (ho : o.op = .buildSlice T 0 #[]) : OpW P N o E H (NewRow U k 0 []) := fun R a W h0 h2 h3' ha => by
 obtain ⟨i, hi, hik, hib, hz⟩ := hs.el
 have hr : (execOp a.eval o).run P W = .ok (.value (.slice (some ⟨W.heap.size, 0, none⟩) 0 0)) (W.alloc (.cells #[] U)) := by
  simp [execOp, ho, Instr.buildSlice, run_underlying hs.ty, sizeOf, typeInfo, hi, newRow, Instr.fill]; congr 2; apply Array.ext'; simp [Array.toList_range]
 unfold Oper.wp
 rw [hr]
 refine ⟨_, .val _, _, R, rfl, ⟨_, rfl, rfl, rfl⟩, Mods.alloc (Mods.refl _ _) _, fun _ h => h, fun _ h => .inl h, .val _, ?_, by simp⟩
 intro e he
 obtain rfl : e = _ := by simpa using he
 refine ⟨⟨[], ⟨by simp, .inr ⟨W.heap.size, 0, #[], rfl, Nat.zero_le _, heap_alloc_new W _, Nat.le_refl _, Nat.zero_le _, by simp, by simp⟩⟩, RelL.nil⟩, fun b hb => ?_⟩
 have : some W.heap.size = some b := hb
 cases this
 exact ⟨Nat.le_refl _, fun h => by have := h0 _ h; omega⟩

theorem O.minI {T : Array Nat} {x y : Operand} {k : IntKind} {p q c : Int} (ho : o.op = .call { callee := .builtin .min, args := #[x, y], argTypes := T }) (hx : ev E x = some (.val (.int k p))) (hy : ev E y = some (.val (.int k q))) (hc : (if q < p then q else p) = c) :
  OpW P N o E H (Is (.val (.int k c))) := .of_run fun R a W h1 h2 ha =>
 ⟨.int k c, by simp [execOp, ho, (ha.ev hx).val_inv, (ha.ev hy).val_inv, resolve, invoke, builtin, Builtin.min_, Builtin.min2, hc], .val _⟩
end
end Go.Proofs.YtoonnnifelnaiaaGreatDoor.A

namespace Go.Proofs.YtoonnnifelnaiaaGreatDoor.A
open Go.RowKit L
set_option linter.unusedVariables false
set_option maxRecDepth 20000
set_option linter.unusedSimpArgs false

def bndV (E : Env) : Option Operand → Nat → Option Int
 | none, d => some d
 | some x, _ => match ev E x with
  | some (.val (.int _ z)) => some z
  | _ => none

section
variable {Γ : Cx} {P : Program} {Q : Exit → Act → World → Prop} {E : Env} {H : List HE} {N : Nat} {o : Oper} {ops : Array Oper} {rest : List Oper}

theorem bnd_ev {R : Nat → Prop} {W : World} {a : Act} {x : Operand} {d : Nat} {z : Int} (ha : RelA N R W E a) (h : bndV E (some x) d = some z) : ∃ k, a.eval x = .int k z := by
 unfold bndV at h
 simp only at h
 split at h
 ·rename_i k z' hx
  cases h
  exact ⟨k, (ha.ev hx).val_inv⟩
 ·cases h

theorem run_sliceBounds2 {R : Nat → Prop} {W : World} {a : Act} {low high : Option Operand} {n cap : Nat} {l h : Int} (ha : RelA N R W E a) (hl : bndV E low 0 = some l) (hh : bndV E high n = some h) (h0 : 0 ≤ l ∧ l ≤ h ∧ h ≤ n) (hc : n ≤ cap) :
  (Instr.sliceBounds true n cap (low.map a.eval) (high.map a.eval) none).run P W = .ok (l.toNat, h.toNat, cap) W := by
 obtain ⟨h1, h2, h3⟩ := h0
 have hhc : h ≤ (cap : Int) := by omega
 cases high with
 | none =>
  obtain rfl : (n : Int) = h := by simpa [bndV] using hh
  cases low with
  | none =>
   obtain rfl : (0 : Int) = l := by simpa [bndV] using hl
   simp [Instr.sliceBounds]
  | some x =>
   obtain ⟨k, hk⟩ := bnd_ev ha hl
   simp [Instr.sliceBounds, Instr.sliceBound, hk, asIntOf, h1, h2]
 | some y =>
  obtain ⟨k', hk'⟩ := bnd_ev ha hh
  have h4 : 0 ≤ h := by omega
  cases low with
  | none =>
   obtain rfl : (0 : Int) = l := by simpa [bndV] using hl
   simp [Instr.sliceBounds, Instr.sliceBound, hk', asIntOf, h4, hhc]
  | some x =>
   obtain ⟨k, hk⟩ := bnd_ev ha hl
   have h5 : l ≤ max h 0 := by omega
   simp [Instr.sliceBounds, Instr.sliceBound, hk, hk', asIntOf, h1, h4, hhc]
   omega

/-- A slice from a block's head that is written no more. -/
theorem G.freezeSl {X : Act → World → Prop} (i t : Nat) {b T room n cap : Nat} {xs : List AV} (hi : H[i]? = some (.blk b T room xs)) (ht : look E t = some (.val (.slice (some ⟨b, 0, none⟩) n cap))) (hc : n ≤ cap ∧ cap ≤ maxLen) (k : G Γ ((t, .ro (Nat.beq n cap) n xs) :: E) (H.eraseIdx i) X) : G Γ E H X :=
 G.freezeBlk i hi [(t, .ro (Nat.beq n cap) n xs)] (fun p hp => by
  obtain rfl : p = (t, .ro (Nat.beq n cap) n xs) := by simpa using hp
  exact .inr ⟨n, cap, ht, rfl, hc.1, hc.2⟩) k
theorem frNil {v : AV} : ∀ t ∈ ([] : List Nat), look E t = some v := fun _ h => by cases h
theorem frCons {t : Nat} {r : List Nat} {v : AV} (h : look E t = some v) (hr : ∀ t ∈ r, look E t = some v) : ∀ s ∈ t :: r, look E s = some v := fun s hs => by
 rcases List.mem_cons.1 hs with rfl | hs
 ·exact h
 ·exact hr s hs
/-- x[l:h] of a slice that is read only. -/
theorem O.sliceR {T : Nat} {x : Operand} {low high : Option Operand} {full : Bool} {n : Nat} {xs ys : List AV} {l h : Int} {U sz bs m : Nat} {zz : Value} [hs : TyS P T U sz bs zz] (ho : o.op = .slice T x low high none) (hx : ev E x = some (.ro full n xs)) (hl : bndV E low 0 = some l) (hh : bndV E high n = some h) (h0 : 0 ≤ l ∧ l ≤ h ∧ h ≤ n)
  (hm : h.toNat - l.toNat = m) (hy : (xs.drop (l.toNat * sz)).take (m * sz) = ys) (hys : m = 0 → ys = []) : OpW P N o E H (Is (.ro false m ys)) := .of_run fun R a W h1 h2 ha => by
 obtain ⟨i, hi, hi2, -⟩ := hs.el
 have hv := ha.ev hx
 generalize hu : a.eval x = u at *
 cases hv with
 | emp _ ad cap h3 h4 =>
  have hb := run_sliceBounds2 (P := P) (W := W) (cap := cap) ha hl hh h0 (Nat.zero_le _)
  obtain ⟨g1, g2, g3⟩ := h0
  simp at g3
  obtain rfl : l = 0 := by omega
  obtain rfl : h = 0 := by omega
  simp at hm
  subst hm
  rw [hys rfl]
  refine ⟨.slice (if cap = 0 then ad else ad.map (·.add (0 * sz))) 0 (cap - 0), ?_, .emp _ _ _ (fun h => by cases h) (by omega)⟩
  simp [execOp, ho, hu, Instr.sliceAt, Instr.slice, run_underlying hs.ty, hb, sizeOf, typeInfo, hi, hi2]
 | ro _ _ _ b off cap us hb' hc hr h3 h4 h5 =>
  have hb := run_sliceBounds2 (P := P) (W := W) (cap := cap) ha hl hh h0 h3
  obtain ⟨g1, g2, g3⟩ := h0
  have hlen : l.toNat ≤ h.toNat := by omega
  have hhn : h.toNat ≤ n := by omega
  refine ⟨.slice (if cap = l.toNat then some ⟨b, off, none⟩ else some ⟨b, off + l.toNat * sz, none⟩) (h.toNat - l.toNat) (cap - l.toNat), ?_, ?_⟩
  ·simp only [execOp, ho, hu, Instr.sliceAt, Instr.slice, run_underlying hs.ty, Sem.run_bind, Result.andThen_ok, hb, sizeOf, typeInfo, hi, hi2, run_program, Sem.run_pure, Option.map_none]
   split <;> simp [addr_add]
  ·rw [hm]
   by_cases hz : cap = l.toNat
   ·rw [if_pos hz]
    have : m = 0 := by omega
    subst this
    rw [hys rfl]
    exact .emp _ _ _ (fun h => by cases h) (by omega)
   ·rw [if_neg hz]
    subst hy
    refine .ro _ _ _ b (off + l.toNat * sz) _ (fun j => us (l.toNat * sz + j)) hb' (fun j hj => ?_) (fun j hj => ?_) (by omega) (by omega) (fun h => by cases h)
    ·simp at hj
     rw [Nat.add_assoc]
     exact hc _ (by omega)
    ·simp only [List.getElem_take, List.getElem_drop]
     simp at hj
     exact hr _ (by omega)
/-- x[:k], x[k:] -/
theorem O.sliceTo {T : Nat} {x y : Operand} {full : Bool} {n k : Nat} {kk : IntKind} {z : Int} {xs ys : List AV} {U sz bs : Nat} {zz : Value} [hs : TyS P T U sz bs zz] (ho : o.op = .slice T x none (some y) none) (hx : ev E x = some (.ro full n xs)) (hy : ev E y = some (.val (.int kk z))) (hz : z = (k : Int)) (hk : k ≤ n) (hys : xs.take (k * sz) = ys) :
  OpW P N o E H (Is (.ro false k ys)) := by
 subst hz
 refine O.sliceR (l := 0) (h := (k : Int)) ho hx rfl (by simp [bndV, hy]) ⟨by omega, by omega, by omega⟩ (by simp) (by simpa using hys) (fun h => ?_)
 subst h; rw [← hys]; simp
end
end Go.Proofs.YtoonnnifelnaiaaGreatDoor.A

namespace Go.Proofs.YtoonnnifelnaiaaGreatDoor.A
open Go.RowKit L
set_option linter.unusedVariables false
set_option maxRecDepth 20000
set_option linter.unusedSimpArgs false

def Coe (a b : AV) : Prop := ∀ R W u, RelV R W a u → RelV R W b u
def CoeL (a b : List AV) : Prop := ∀ R W us, RelL R W a us → RelL R W b us
theorem Coe.rfl {a : AV} : Coe a a := fun _ _ _ h => h
theorem Coe.nil : Coe (.val (.slice none 0 0)) (.ro false 0 []) := fun _ _ _ h => h.nilRo
theorem Coe.unfull {full : Bool} {n : Nat} {xs : List AV} : Coe (.ro full n xs) (.ro false n xs) := fun _ _ _ h => h.unfull
theorem CoeL.nil : CoeL [] [] := fun _ _ _ h => h
theorem CoeL.cons {a b : AV} {x y : List AV} (h : Coe a b) (hs : CoeL x y) : CoeL (a :: x) (b :: y) := fun R W us hu => by
 obtain ⟨u, r, rfl, h1, h2⟩ := hu.uncons
 exact RelL.cons (h R W u h1) (hs R W r h2)
theorem CoeL.refl {a : List AV} : CoeL a a := fun _ _ _ h => h
theorem Coe.agg {x y : List AV} (h : CoeL x y) : Coe (.agg x) (.agg y) := fun R W u hu => by
 obtain ⟨us, rfl, h1⟩ := hu.agg_inv
 exact (h R W us h1).toAgg
theorem Sp.coe {P : Program} {f : FuncId} {args args' : List AV} {H0 : List HE} {Post : AV → List HE → Prop} (h : Sp P f args' H0 Post) (hc : CoeL args args') : Sp P f args H0 Post := fun W R us h1 h2 h3 h4 => h W R us h1 h2 h3 (hc R W us h4)

section
variable {Γ : Cx} {P : Program} {Q : Exit → Act → World → Prop} {E : Env} {H : List HE} {N : Nat} {o : Oper} {ops : Array Oper} {rest : List Oper}
theorem O.callC {f : FuncId} {xs : List Operand} {ats : Array TypeId} {args args' : List AV} {Post : AV → List HE → Prop} {fn : Func} (ho : o.op = .call { callee := .value (.func f), args := xs.toArray, argTypes := ats }) (hfn : P.funcs[f]? = some fn) (hn : (fn.name == "runtime.NumGoroutine") = false) (hb : fn.body.isNone = false)
  (hx : evs E xs = some args) (h : Sp P f args' [] Post) (hc : CoeL args args') : OpW P N o E H Post := O.call ho hfn hn hb hx (h.coe hc)
/-- The same, in other words. -/
theorem G.re {X : Act → World → Prop} (t : Nat) (b : AV) (ht : look E t = some b) (k : G Γ ((t, b) :: E) H X) : G Γ E H X := fun R a' W hs ha => k R a' W hs (ha.shadow (ha.slots t _ ht))
theorem G.coe {X : Act → World → Prop} (t : Nat) {a b : AV} (ht : look E t = some a) (h : Coe a b) (k : G Γ ((t, b) :: E) H X) : G Γ E H X := fun R a' W hs ha => k R a' W hs (ha.shadow (h R W _ (ha.slots t _ ht)))
end

theorem tmod_fix2 (v n : Int) (h : 0 < n) : (if v.tmod n < 0 then v.tmod n + n else v.tmod n) = v % n := by
 have h1 := Int.tmod_add_mul_tdiv v n
 have h2 : v.tmod n < n := Int.tmod_lt_of_pos v h
 have h3 : -n < v.tmod n := by
  rcases Int.le_total 0 v with hv | hv
  ·have := Int.tmod_nonneg n hv; omega
  ·have := Int.lt_tmod_of_pos v h; omega
 split
 ·rename_i hlt
  have e : v = v.tmod n + n + n * (v.tdiv n - 1) := by rw [Int.mul_sub]; omega
  rw [e, Int.add_mul_emod_self_left, ← e, Int.emod_eq_of_lt (by omega) (by omega)]
 ·have e : v = v.tmod n + n * (v.tdiv n) := by omega
  rw [e, Int.add_mul_emod_self_left, ← e, Int.emod_eq_of_lt (by omega) (by omega)]
end Go.Proofs.YtoonnnifelnaiaaGreatDoor.A

namespace Go.Proofs.YtoonnnifelnaiaaGreatDoor.A
open Go.RowKit L
set_option linter.unusedVariables false
set_option maxRecDepth 20000
set_option linter.unusedSimpArgs false
/-- A number's byte. -/
def u8 (x : Int) : UInt8 := UInt8.ofNat (x % 256).toNat
theorem u8_toNat (x : Int) : ((u8 x).toNat : Int) = x % 256 := by
 have h1 := Int.emod_nonneg x (show (256 : Int) ≠ 0 by omega)
 have h2 := Int.emod_lt_of_pos x (show (0 : Int) < 256 by omega)
 rw [u8, UInt8.toNat_ofNat_of_lt' (by simp [UInt8.size]; omega)]
 omega
theorem wU8any {x : Int} : IntKind.u8.wrap x = ((u8 x).toNat : Int) := by
 rw [u8_toNat]; rfl
section
variable {Γ : Cx} {P : Program} {Q : Exit → Act → World → Prop} {E : Env} {H : List HE} {N : Nat} {o : Oper} {ops : Array Oper} {rest : List Oper}

def IsM (v : AV) (e : HE) : AV → List HE → Prop := fun r H' => r = v ∧ H' = [e]

theorem perm_idx : ∀ {H : List HE} {i : Nat} {e : HE}, H[i]? = some e → H.Perm (e :: H.eraseIdx i)
 | [], i, e, h => by simp at h
 | x :: r, 0, e, h => by simp at h; subst h; exact List.Perm.refl _
 | x :: r, i + 1, e, h => ((perm_idx (H := r) (i := i) (by simpa using h)).cons x).trans (List.Perm.swap ..)
theorem perm_set : ∀ {H : List HE} {i : Nat} {e e' : HE}, H[i]? = some e → (e' :: H.eraseIdx i).Perm (H.set i e')
 | [], i, e, e', h => by simp at h
 | x :: r, 0, e, e', h => List.Perm.refl _
 | x :: r, i + 1, e, e', h => (List.Perm.swap ..).trans ((perm_set (H := r) (i := i) (e' := e') (by simpa using h)).cons x)

theorem AO.perm {H' : List HE} {l : List Oper} (hp : H.Perm H') (h : AO Γ P ops Q l E H') : AO Γ P ops Q l E H := fun R a W hs ha => h R a W (hs.perm hp.symm) ha

/-- A call that leaves one block of the caller's changed. -/
theorem AO.callM1 {f : FuncId} {d : Nat} {xs : List Operand} {ats : Array TypeId} {args : List AV} {i : Nat} {e e' : HE} {v : AV} {H' : List HE} {fn : Func} (ho : o.op = .call { callee := .value (.func f), args := xs.toArray, argTypes := ats }) (hgd : o.guard = none) (hfn : P.funcs[f]? = some fn) (hn : (fn.name == "runtime.NumGoroutine") = false) (hb : fn.body.isNone = false)
  (hx : evs E xs = some args) (hd : o.dst = some d) (hN : Nat.ble (d + 1) Γ.N = true) (hi : H[i]? = some e) (h : Sp P f args [e] (IsM v e')) (hH : H.set i e' = H') (next : AO Γ P ops Q rest ((d, v) :: E) H') : AO Γ P ops Q (o :: rest) E H :=
 AO.callM (H0 := [e]) (H1 := H.eraseIdx i) ho hgd hfn hn hb hx hd (Nat.le_of_ble_eq_true hN) (perm_idx hi) h (by
  rintro _ _ ⟨rfl, rfl⟩
  exact AO.perm (by rw [← hH]; exact perm_set hi) next)
/-- .. and whatever else. -/
theorem AO.callMG {f : FuncId} {d : Nat} {xs : List Operand} {ats : Array TypeId} {args : List AV} (i : Nat) {e : HE} {Post : AV → List HE → Prop} {fn : Func} (ho : o.op = .call { callee := .value (.func f), args := xs.toArray, argTypes := ats }) (hgd : o.guard = none) (hfn : P.funcs[f]? = some fn) (hn : (fn.name == "runtime.NumGoroutine") = false) (hb : fn.body.isNone = false)
  (hx : evs E xs = some args) (hd : o.dst = some d) (hN : Nat.ble (d + 1) Γ.N = true) (hi : H[i]? = some e) (h : Sp P f args [e] Post) (next : ∀ r H', Post r H' → AO Γ P ops Q rest ((d, r) :: E) (H' ++ H.eraseIdx i)) : AO Γ P ops Q (o :: rest) E H :=
 AO.callM (H0 := [e]) (H1 := H.eraseIdx i) ho hgd hfn hn hb hx hd (Nat.le_of_ble_eq_true hN) (perm_idx hi) h next

/-- The row reads as this while it is lent. -/
theorem row_ro {R : Nat → Prop} {W : World} {v : Value} {T sz n : Nat} {xs : List AV} (h : HE.ok R W (.row v T sz n xs)) : RelV (fun b => R b ∨ (HE.row v T sz n xs).foot b) W (.ro false n xs) v := by
 obtain ⟨us, hown, hr⟩ := h
 have hr' := hr.mono (R' := fun b => R b ∨ (HE.row v T sz n xs).foot b) (fun _ h => .inl h) (W' := W) (fun _ _ => rfl)
 rcases hown.2 with ⟨rfl, rfl⟩ | ⟨g, cap, cur, rfl, hbg, hg, h1, h2, h3, h4⟩
 ·have : xs = [] := List.eq_nil_of_length_eq_zero (by rw [← hr.1, hown.1]; simp)
  subst this
  exact .emp _ _ _ (fun h => by cases h) (Nat.zero_le _)
 ·refine .ro false n xs g 0 cap (fun j => us.getD j undef) (.inr rfl) (fun j hj => ?_) (fun j hj => hr'.2 j hj) h1 h2 (fun h => by cases h)
  have hj' : j < us.length := by rw [hr.1]; exact hj
  have := hown.cells (g := g) rfl j us[j] (by simp [hj'])
  rw [addr_add] at this
  rw [this]
  simp [List.getD, hj']

inductive LendL (v : Value) (y : AV) : List AV → List AV → Prop
 | nil : LendL v y [] []
 | same {a : AV} {r r' : List AV} : LendL v y r r' → LendL v y (a :: r) (a :: r')
 | lend {r r' : List AV} : LendL v y r r' → LendL v y (.val v :: r) (y :: r')
theorem LendL.rel {R R1 : Nat → Prop} {W : World} {v : Value} {y : AV} (hR : ∀ b, R b → R1 b) (hy : RelV R1 W y v) {a a' : List AV} (h : LendL v y a a') : ∀ {us : List Value}, RelL R W a us → RelL R1 W a' us := by
 induction h with
 | nil => intro us h; exact h.mono hR (fun _ _ => rfl)
 | same _ ih =>
  intro us h
  obtain ⟨u, r, rfl, h1, h2⟩ := h.uncons
  exact RelL.cons (h1.mono hR (fun _ _ => rfl)) (ih h2)
 | lend _ ih =>
  intro us h
  obtain ⟨u, r, rfl, h1, h2⟩ := h.uncons
  have := h1.val_inv
  subst this
  exact RelL.cons hy (ih h2)
/-- A call to which a row of the caller's is lent, and whose yield holds no memory. -/
theorem O.callL {f : FuncId} {xs : List Operand} {ats : Array TypeId} {args args' : List AV} {v c : Value} {T sz n : Nat} {rs : List AV} {fn : Func} (ho : o.op = .call { callee := .value (.func f), args := xs.toArray, argTypes := ats }) (hfn : P.funcs[f]? = some fn) (hn : (fn.name == "runtime.NumGoroutine") = false) (hb : fn.body.isNone = false)
  (hx : evs E xs = some args) (hm : HE.row v T sz n rs ∈ H) (h : Sp P f args' [] (Is (.val c))) (hl : LendL v (.ro false n rs) args args') : OpW P N o E H (Is (.val c)) := fun R a W h0 h2 h3 ha => by
 have hR : ∀ b, R b → R b ∨ (HE.row v T sz n rs).foot b := fun _ h => .inl h
 have hlt : ∀ b, R b ∨ (HE.row v T sz n rs).foot b → b < W.heap.size := by
  rintro b (hb | hb)
  ·exact h0 b hb
  ·exact HE.ok_lt (h2 _ hm) hb
 unfold Oper.wp
 rw [run_callF ho hfn hn hb, List.map_toArray]
 have hc := h W _ (xs.map a.eval) hlt (fun e he => by cases he) .nil (hl.rel hR (row_ro (h2 _ hm)) (ha.evs hx))
 refine Calls.mono hc ?_
 rintro e W' ⟨u, r, H', R', rfl, ⟨rfl, rfl⟩, hs, hv⟩
 have p := fn_post1 hs hv hlt
 exact ⟨u, .val c, [], R, rfl, ⟨rfl, rfl⟩, p.ext, fun _ h => h, fun _ h => .inl h, by rw [hv.val_inv]; exact .val _, fun _ he => (by cases he), .nil⟩
/-- A literal that nobody writes is read only from the start. -/
theorem OpW.frz {n U room : Nat} {ys : List AV} (h : OpW P N o E H (NewBlk (fun b => .val (.slice (some ⟨b, 0, none⟩) n n)) U room ys)) (hn : n ≤ maxLen) : OpW P N o E H (Is (.ro false n ys)) := fun R a W h1 h2 h3 h4 => by
 refine Oper.wp_mono ?_ (h R a W h1 h2 h3 h4)
 rintro A' W' ⟨u, v, Hn, R', rfl, ⟨b, rfl, rfl⟩, p⟩
 obtain ⟨hok, hfo⟩ := p.ok _ (List.mem_cons_self ..)
 have hu := p.val.val_inv
 subst hu
 refine ⟨_, .ro false n ys, [], fun c => R' c ∨ c = b, rfl, ⟨rfl, rfl⟩, p.ext, fun c hc => .inl (p.sub c hc), fun c hc => ?_, ?_, fun _ he => (by cases he), .nil⟩
 ·rcases hc with hc | rfl
  ·exact p.new c hc
  ·exact .inr ⟨(hfo _ rfl).1, HE.ok_lt hok rfl⟩
 ·refine .ro false n ys b 0 n (fun j => (W'.cell? ⟨b, 0 + j, none⟩).getD undef) (.inr rfl) (fun j hj => ?_) (fun j hj => ?_) (Nat.le_refl _) hn (fun h => by cases h)
  ·obtain ⟨u, hu, _⟩ := blk_cell hok (j := j) (v := ys[j]) (by simp [hj])
   rw [Nat.zero_add, hu]; rfl
  ·obtain ⟨u, hu, hr⟩ := blk_cell hok (j := j) (v := ys[j]) (by simp [hj])
   rw [Nat.zero_add, hu]
   exact hr.mono (fun _ h => .inl h) (fun _ _ => rfl)
end
end Go.Proofs.YtoonnnifelnaiaaGreatDoor.A

namespace Go.Proofs.YtoonnnifelnaiaaGreatDoor.A
open Go.RowKit L
set_option linter.unusedVariables false
set_option maxRecDepth 20000
set_option linter.unusedSimpArgs false
section
variable {Γ : Cx} {P : Program} {Q : Exit → Act → World → Prop} {E : Env} {H : List HE} {N : Nat} {o : Oper} {ops : Array Oper} {rest : List Oper}

end
end Go.Proofs.YtoonnnifelnaiaaGreatDoor.A

namespace Go.Proofs.YtoonnnifelnaiaaGreatDoor.A
open Go.RowKit L
set_option linter.unusedVariables false
set_option maxRecDepth 20000
set_option linter.unusedSimpArgs false
section
variable {Γ : Cx} {P : Program} {Q : Exit → Act → World → Prop} {E : Env} {H : List HE} {N : Nat} {o : Oper} {ops : Array Oper} {rest : List Oper}

theorem O.and_ {T T' : Nat} {x y : Operand} {k : IntKind} {p q c : Int} (ho : o.op = .binOp .and T x y T') (hx : ev E x = some (.val (.int k p))) (hy : ev E y = some (.val (.int k q))) (hc : Go.bits .and k p q = c) : OpW P N o E H (Is (.val (.int k c))) :=
 O.binI ho hx hy fun W => by simp [binOp, intBits_and, hc]
theorem O.or_ {T T' : Nat} {x y : Operand} {k : IntKind} {p q c : Int} (ho : o.op = .binOp .or T x y T') (hx : ev E x = some (.val (.int k p))) (hy : ev E y = some (.val (.int k q))) (hc : Go.bits .or k p q = c) : OpW P N o E H (Is (.val (.int k c))) :=
 O.binI ho hx hy fun W => by simp [binOp, intBits_or, hc]
def valsOf : List AV → Option (List Value)
 | [] => some []
 | .val v :: r => (valsOf r).map (v :: ·)
 | _ :: _ => none
/-- Two results: one lies in a box, the other in a temporary. -/
theorem AQ.retCT {fn : Func} {Post : AV → List HE → Prop} {t s T k b T' room : Nat} {q : AV} {xs ys : List AV} {H' : List HE} [hg : TyG P T true k] (hr : fn.results = #[.cell t T, .tmp s]) (ht : look E t = some (.val (.pointer (some ⟨b, 0, none⟩)))) (hs' : look E s = some q) (hm : HE.blk b T' room xs ∈ H) (hv : xs.take k = ys) (hk : ys.length = k)
  (hH : ∃ H1, H1.Sublist H ∧ H'.Perm H1) (hp : Post (.tup [.agg ys, q]) H') : AQ Γ (FnQ Γ P fn Post) .ret E H := fun R a W hs ha => by
 obtain ⟨H1, h1, h2⟩ := hH
 obtain ⟨us, cs, hb, hsz, hts, hrl⟩ := hs.ok _ hm
 have hrl := hrl.take k
 rw [hv] at hrl
 have hl := run_loadVarK hg W b 0 (us.take k) (by rw [hrl.1, hk]) (fun i u hi => by
  rw [cell_of_row W b (0 + i) cs T' (0, 0) hb]
  rw [List.getElem?_take] at hi
  split at hi
  ·rw [← hts, List.getElem?_take] at hi
   split at hi
   ·simpa using hi
   ·cases hi
  ·cases hi)
 have hv' := (ha.slots t _ ht).val_inv
 have hq := ha.slots s _ hs'
 refine ⟨ha.defers, .tuple #[.agg (us.take k).toArray, a.eval (.tmp s)], ?_, _, _, H', R, rfl, hp, ?_, RelL.toTup (us := [.agg (us.take k).toArray, a.eval (.tmp s)]) (RelL.cons hrl.toAgg (RelL.cons hq RelL.nil))⟩
 ·have : a.tmps.getD t undef = .pointer (some ⟨b, 0, none⟩) := hv'
  simp [results, hr, Act.eval] at *
  simp [this, asAddr, hl]
 ·have := (hs.sub h1).perm h2
  exact ⟨this.mods, this.rlt, this.rsub, this.rnew, this.ok, this.own, this.disj⟩
end
end Go.Proofs.YtoonnnifelnaiaaGreatDoor.A

namespace Go.Proofs.YtoonnnifelnaiaaGreatDoor.A
open Go.RowKit L
set_option linter.unusedVariables false
set_option maxRecDepth 20000
set_option linter.unusedSimpArgs false
section
variable {Γ : Cx} {P : Program} {Q : Exit → Act → World → Prop} {E : Env} {H : List HE} {N : Nat} {o : Oper} {ops : Array Oper} {rest : List Oper}

theorem subPnil {H : List HE} : ∃ H1, H1.Sublist H ∧ ([] : List HE).Perm H1 := ⟨[], List.nil_sublist _, .nil⟩
theorem subPcons (i : Nat) {e : HE} {r H : List HE} (h : H[i]? = some e) (hr : ∃ H1, H1.Sublist (H.eraseIdx i) ∧ r.Perm H1) : ∃ H1, H1.Sublist H ∧ (e :: r).Perm H1 := by
 obtain ⟨H1, h1, h2⟩ := hr
 obtain ⟨hlt, rfl⟩ := List.getElem?_eq_some_iff.1 h
 rw [List.eraseIdx_eq_take_drop_succ, List.sublist_append_iff] at h1
 obtain ⟨A, B, rfl, hA, hB⟩ := h1
 refine ⟨A ++ H[i] :: B, ?_, ?_⟩
 ·have e : H = H.take i ++ H[i] :: H.drop (i + 1) := by rw [← List.drop_eq_getElem_cons hlt, List.take_append_drop]
  have h9 : (A ++ H[i] :: B).Sublist (H.take i ++ H[i] :: H.drop (i + 1)) := hA.append (hB.cons_cons _)
  rwa [← e] at h9
 ·exact (h2.cons _).trans (List.perm_middle.symm)
/-- What a loop only reads stays as it is. -/
def LoopK (K : Env) (I : Nat → Env → List HE → Prop) : Nat → Env → List HE → Prop := fun n E H => ∃ E1, I n E1 H ∧ E = E1 ++ K
theorem env_app {K E1 : Env} (h1 : ∀ p ∈ E1, look E p.1 = some p.2) (h2 : ∀ p ∈ K, look E p.1 = some p.2) : ∀ p ∈ E1 ++ K, look E p.1 = some p.2 := fun p hp => by
 rcases List.mem_append.1 hp with hp | hp
 ·exact h1 p hp
 ·exact h2 p hp
theorem AW.loopK {c : Code} (K : Env) (I : Nat → Env → List HE → Prop) (n : Nat) {E0 : Env} {H0 : List HE} (hI : I n E0 H0) (hK : ∀ p ∈ K, look E p.1 = some p.2) (hE : ∀ p ∈ E0, look E p.1 = some p.2) (hH : ∃ H1, H1.Sublist H ∧ H0.Perm H1)
  (round : ∀ n E1 H, I n E1 H → AW Γ P (LoopQ (LoopK K I) n Γ Q) c (E1 ++ K) H) : AW Γ P Q (.loop c) E H :=
 AW.loop (LoopK K I) n (E0 := E0 ++ K) (H0 := H0) ⟨E0, hI, rfl⟩ (env_app hE hK) hH (by
  rintro n _ H ⟨E1, h, rfl⟩
  exact round n E1 H h)
theorem AQ.loopKN {K : Env} {I : Nat → Env → List HE → Prop} {n : Nat} (m : Nat) (E1 : Env) (H0 : List HE) (hm : m < n) (hI : I m E1 H0) (hK : ∀ p ∈ K, look E p.1 = some p.2) (hE : ∀ p ∈ E1, look E p.1 = some p.2) (hH : ∃ H1, H1.Sublist H ∧ H0.Perm H1) :
  AQ Γ (LoopQ (LoopK K I) n Γ Q) .normal E H := AQ.loopN m (E1 ++ K) H0 hm ⟨E1, hI, rfl⟩ (env_app hE hK) hH

/-- s[i] of a string -/
theorem O.indexS {T : Nat} {x y : Operand} {k : IntKind} {z : Int} {s : ByteArray} {u : UInt8} [hT : TyD P T .string] (ho : o.op = .index T x y) (hx : ev E x = some (.val (.string s))) (hy : ev E y = some (.val (.int k z))) (hz : 0 ≤ z ∧ s.toList[z.toNat]? = some u) :
  OpW P N o E H (Is (.val (.int .u8 (u.toNat : Int)))) := .of_run fun R a W h1 h2 ha => by
 refine ⟨_, ?_, .val _⟩
 have h5 : s[z.toNat]? = some u := by
  have := hz.2
  rw [ByteArray.toList_eq] at this
  obtain ⟨h6, h7⟩ := List.getElem?_eq_some_iff.1 this
  have h8 : z.toNat < s.size := by simpa using h6
  rw [getElem?_pos s z.toNat h8]
  congr 1
 simp [execOp, ho, (ha.ev hx).val_inv, (ha.ev hy).val_inv, Instr.index, asIntOf, run_underlying hT.ax, hz.1, h5]

/-- x[l:h] of a slice that is the walk's own -/
theorem run_sliceBoundsV {R : Nat → Prop} {W : World} {a : Act} {low high : Option Operand} {n cap : Nat} {l h : Int} (ha : RelA N R W E a) (hl : bndV E low 0 = some l) (hh : bndV E high n = some h) (h0 : 0 ≤ l ∧ l ≤ h ∧ h ≤ cap) :
  (Instr.sliceBounds true n cap (low.map a.eval) (high.map a.eval) none).run P W = .ok (l.toNat, h.toNat, cap) W := by
 obtain ⟨h1, h2, hhc⟩ := h0
 cases high with
 | none =>
  obtain rfl : (n : Int) = h := by simpa [bndV] using hh
  cases low with
  | none =>
   obtain rfl : (0 : Int) = l := by simpa [bndV] using hl
   simp [Instr.sliceBounds]
  | some x =>
   obtain ⟨k, hk⟩ := bnd_ev ha hl
   simp [Instr.sliceBounds, Instr.sliceBound, hk, asIntOf, h1, h2]
 | some y =>
  obtain ⟨k', hk'⟩ := bnd_ev ha hh
  have h4 : 0 ≤ h := by omega
  cases low with
  | none =>
   obtain rfl : (0 : Int) = l := by simpa [bndV] using hl
   simp [Instr.sliceBounds, Instr.sliceBound, hk', asIntOf, h4, hhc]
  | some x =>
   obtain ⟨k, hk⟩ := bnd_ev ha hl
   have h5 : l ≤ max h 0 := by omega
   simp [Instr.sliceBounds, Instr.sliceBound, hk, hk', asIntOf, h1, h4, hhc]
   omega
theorem O.sliceV {T : Nat} {x : Operand} {low high : Option Operand} {b off n c : Nat} {l h : Int} {U sz bs : Nat} {zz : Value} [hs : TyS P T U sz bs zz] (ho : o.op = .slice T x low high none) (hx : ev E x = some (.val (.slice (some ⟨b, off, none⟩) n c))) (hl : bndV E low 0 = some l) (hh : bndV E high n = some h) (h0 : 0 ≤ l ∧ l ≤ h ∧ h ≤ c)
  (hc : l < c) : OpW P N o E H (Is (.val (.slice (some ⟨b, off + l.toNat * sz, none⟩) (h.toNat - l.toNat) (c - l.toNat)))) := .of_run fun R a W h1 h2 ha => by
 obtain ⟨i, hi, hi2, -⟩ := hs.el
 have hb := run_sliceBoundsV (P := P) (W := W) (cap := c) ha hl hh h0
 refine ⟨_, ?_, .val _⟩
 have hne : ¬ c = l.toNat := by omega
 simp only [execOp, ho, (ha.ev hx).val_inv, Instr.sliceAt, Instr.slice, run_underlying hs.ty, Sem.run_bind, Result.andThen_ok, hb, sizeOf, typeInfo, hi, hi2, run_program, Sem.run_pure, Option.map_none]
 simp [hne, addr_add]
/-- The empty part of a slice that is the walk's own. -/
theorem O.sliceV0 {T : Nat} {x : Operand} {low high : Option Operand} {b off n c : Nat} {l h : Int} {U sz bs : Nat} {zz : Value} [hs : TyS P T U sz bs zz] (ho : o.op = .slice T x low high none) (hx : ev E x = some (.val (.slice (some ⟨b, off, none⟩) n c))) (hl : bndV E low 0 = some l) (hh : bndV E high n = some h) (h0 : 0 ≤ l ∧ l ≤ h ∧ h ≤ c)
  (hc : h = l) (hcm : c ≤ maxLen) : OpW P N o E H (Is (.ro false 0 [])) := .of_run fun R a W h1 h2 ha => by
 obtain ⟨i, hi, hi2, -⟩ := hs.el
 subst hc
 have hb := run_sliceBoundsV (P := P) (W := W) (cap := c) ha hl hh h0
 refine ⟨.slice (if c = h.toNat then some ⟨b, off, none⟩ else some ⟨b, off + h.toNat * sz, none⟩) 0 (c - h.toNat), ?_, .emp _ _ _ (fun h => by cases h) (by omega)⟩
 simp only [execOp, ho, (ha.ev hx).val_inv, Instr.sliceAt, Instr.slice, run_underlying hs.ty, Sem.run_bind, Result.andThen_ok, hb, sizeOf, typeInfo, hi, hi2, run_program, Sem.run_pure, Option.map_none]
 split <;> simp [addr_add]

/-- x[l:h] of a slice that is read only, the bounds in plain numbers -/
theorem O.sliceLH {T : Nat} {x y y' : Operand} {full : Bool} {n l h : Nat} {kk kk' : IntKind} {z z' : Int} {xs ys : List AV} {U sz bs : Nat} {zz : Value} [hs : TyS P T U sz bs zz] (ho : o.op = .slice T x (some y) (some y') none) (hx : ev E x = some (.ro full n xs)) (hy : ev E y = some (.val (.int kk z))) (hy' : ev E y' = some (.val (.int kk' z')))
  (hz : z = (l : Int)) (hz' : z' = (h : Int)) (hlh : l ≤ h) (hhn : h ≤ n) (hys : (xs.drop (l * sz)).take ((h - l) * sz) = ys) : OpW P N o E H (Is (.ro false (h - l) ys)) := by
 subst hz
 subst hz'
 refine O.sliceR (l := (l : Int)) (h := (h : Int)) (m := h - l) ho hx (by simp [bndV, hy]) (by simp [bndV, hy']) ⟨by omega, by omega, by omega⟩ (by simp) (by simpa using hys) (fun h0 => ?_)
 rw [← hys, h0]; simp
/-- An append to the first n elements of a block of the walk's own: the others are lost. -/
theorem AO.appendCut {T T2 U k bs d : Nat} {z : Value} {s x : Operand} {w : AV} {i b n m cap : Nat} {xs ys zs : List AV} {H' : Value → List HE} [hs : TyS P T U k bs z] (ho : o.op = .call { callee := .builtin .append, args := #[s, x], argTypes := #[T, T2] }) (hgd : o.guard = none) (hd : o.dst = some d) (hN : Nat.ble (d + 1) Γ.N = true)
  (hz : Nat.beq z.cells.size k = true) (hk : Nat.ble 1 k = true) (hv : ev E s = some (.val (.slice (some ⟨b, 0, none⟩) n cap))) (hx : ev E x = some w) (hi : H[i]? = some (.blk b U (cap * k) xs)) (hnl : n * k ≤ xs.length) (hsrc : SrcA P T2 k H w m ys) (hone : ys.all AV.one = true) (hn : n + m ≤ maxLen) (hby : (n + m) * bs ≤ 140737488355328) (hcap : n ≤ cap ∧ cap ≤ maxLen)
  (hzs : xs.take (n * k) ++ ys = zs) (hH : ∀ v', H.set i (.row v' U k (n + m) zs) = H' v')
  (next : ∀ v' : Value, v'.oneCell' = true → AO Γ P ops Q rest ((d, .val v') :: E) (H' v')) : AO Γ P ops Q (o :: rest) E H := fun R a W hs' ha => by
 have hmem := List.mem_of_getElem? hi
 obtain ⟨us0, cs, hb, hsz, ht, hr0⟩ := hs'.ok _ hmem
 have hr := hr0.take (n * k)
 have hown : W.ownsRow 0 U k (.slice (some ⟨b, 0, none⟩) n cap) n (us0.take (n * k)) :=
  ⟨by rw [hr.1, List.length_take]; omega, .inr ⟨b, cap, cs, rfl, Nat.zero_le _, hb, hcap.1, hcap.2, by omega, by rw [← ht, List.take_take]; congr 1; omega⟩⟩
 obtain ⟨news, h1, h2⟩ := hsrc.2 R W (a.eval x) hs'.ok (ha.ev hx)
 obtain ⟨v', W', hrun, hown', hgr, hblk, h1c⟩ := run_append_row hs (Nat.eq_of_beq_eq_true hz) (Nat.le_of_ble_eq_true hk) hown (h2 (h1.all_one hone)) hn hby o.type
 unfold wpList
 rw [if_pos (by unfold Region.wanted; rw [hgd])]
 refine .inl ?_
 unfold Oper.wp
 rw [append_exec ho (by rw [(ha.ev hv).val_inv]; exact hrun)]
 show wpList P ops Q rest (a.put o.dst v') W'
 rw [hd]
 have hm : Mods (fun c => (HE.blk b U (cap * k) xs).foot c) W W' := Mods.grown (Mods.refl _ _) hgr fun c hc _ => by
  have : some b = some c := hc
  cases this; rfl
 have hR : ∀ c, R c → W'.heap[c]? = W.heap[c]? := fun c hc => hm.block c (hs'.rlt c hc) fun hh => (hs'.own _ hmem c hh).2 hc
 have this := next v' h1c R (a.put (some d) v') W'
 rw [← hH, ← hzs] at this
 refine this (hs'.setEntry hi hm (fun c hc => ?_) ⟨_, hown', (hr.app h1).mono (fun _ h => h) hR⟩) ((ha.keep hR).put (Nat.le_of_ble_eq_true hN) (.val _))
 rcases hblk with hb | hb
 ·rw [HE.foot, hb] at hc
  have : some b = some c := hc
  cases this; exact .inl rfl
 ·rw [HE.foot, hb] at hc; cases hc; exact .inr (Nat.le_refl _)
/-- make([]T, n) -/
theorem O.makeSlice {T U k bs : Nat} {z : Value} {x y : Operand} {n : Nat} {kl kc : IntKind} {p q : Int} [hs : TyS P T U k bs z] (ho : o.op = .makeSlice T x y) (hx : ev E x = some (.val (.int kl p))) (hy : ev E y = some (.val (.int kc q))) (hp : p = (n : Int)) (hq : q = (n : Int)) (hn : n * bs ≤ 140737488355328) (hn2 : n ≤ maxLen) (hzk : Nat.beq z.cells.size k = true) :
    OpW P N o E H (NewBlk (fun b => .val (.slice (some ⟨b, 0, none⟩) n n)) U (n * k) (zerosA n z)) := fun R a W h0 h2 h3' ha => by
  obtain ⟨i, hi, hik, hib, hz⟩ := hs.el
  subst hp
  subst hq
  unfold maxLen at hn2
  have hr : (execOp a.eval o).run P W = .ok (.value (.slice (some ⟨W.heap.size, 0, none⟩) n n)) (W.alloc (.cells (madeCells z.cells (n * k)) U)) := by
    simp only [execOp, ho, (ha.ev hx).val_inv, (ha.ev hy).val_inv]
    rw [Sem.run_bind, run_make (P := P) W T U i z hs.ty hi hz kl kc n n (by omega) (Int.le_refl _) (by rw [hib]; have : ((n * bs : Nat) : Int) ≤ 140737488355328 := by omega
                                                                                                       rw [Int.natCast_mul, Int.mul_comm] at this; omega) (by omega)]
    simp only [Int.toNat_natCast, hik]
    rfl
  unfold Oper.wp
  rw [hr]
  refine ⟨_, _, _, R, rfl, ⟨W.heap.size, rfl, rfl⟩, post1_new h0 U _ (n * k) (zerosA n z) (size_madeCells _ _) ?_ (fun _ _ => .val _)⟩
  have e : (madeCells z.cells (n * k)).toList.map AV.val = zerosA n z := by
    unfold madeCells zerosA
    rw [zeros_cells z k (Nat.eq_of_beq_eq_true hzk) n, List.map_flatten, List.map_replicate]
  rw [← e, List.length_map, List.take_length]
  exact relL_vals R W _

/-- []byte(s) -/
theorem O.toBytes {S T U : Nat} {x : Operand} {s : ByteArray} {l : List UInt8} [hS : TyD P S .string] [hT : TyD P T (.slice U)] [hU : TyD P U (.int .u8)] (ho : o.op = .convert S T x) (hx : ev E x = some (.val (.string s))) (hl : s.data.toList = l) (hm : l.length ≤ maxLen) :
  OpW P N o E H (Is (roB l)) := fun R a W h0 h2 h3 ha => by
 have hr : (execOp a.eval o).run P W = .ok (.value (.slice (some ⟨W.heap.size, 0, none⟩) s.size (grownCap W s.size 0 U)))
   (W.drew.alloc (.cells (bytesRow s (grownCap W s.size 0 U)) U ((bytesRow s (grownCap W s.size 0 U)).size, (bytesRow s (grownCap W s.size 0 U)).size + 1))) := by
  simp only [execOp, ho, (ha.ev hx).val_inv]
  rw [Sem.run_bind, run_bytes_of_string W S T U s hS.ax hT.ax hU.ax]
  rfl
 have hsz : s.size = l.length := by rw [← hl]; exact Array.length_toList.symm
 unfold Oper.wp
 rw [hr]
 have hE : Ext W (W.drew.alloc (.cells (bytesRow s (grownCap W s.size 0 U)) U ((bytesRow s (grownCap W s.size 0 U)).size, (bytesRow s (grownCap W s.size 0 U)).size + 1))) := Mods.alloc (Mods.drew (Mods.refl _ _)) _
 have hnew := heap_alloc_new W.drew (.cells (bytesRow s (grownCap W s.size 0 U)) U ((bytesRow s (grownCap W s.size 0 U)).size, (bytesRow s (grownCap W s.size 0 U)).size + 1))
 refine ⟨_, roB l, [], fun b => R b ∨ b = W.heap.size, rfl, ⟨rfl, rfl⟩, hE, fun _ h => .inl h, ?_, ?_, fun _ he => (by cases he), .nil⟩
 ·rintro b (hb | rfl)
  ·exact .inl hb
  ·refine .inr ⟨Nat.le_refl _, ?_⟩
   have h9 : W.drew.heap.size = W.heap.size := rfl
   rw [h9] at hnew
   exact (Array.getElem?_eq_some_iff.1 hnew).1
 ·unfold roB
  rw [hsz]
  refine .ro false l.length (bytesA l) W.heap.size 0 _ (fun j => .int .u8 ((l.getD j 0).toNat : Int)) (.inr rfl) (fun j hj => ?_) (fun j hj => ?_) ?_ ?_ (fun h => by cases h)
  ·have hj' : j < l.length := by simpa using hj
   have hj2 : j < s.data.size := by rw [← hl] at hj'; simpa using hj'
   have hcell : (bytesRow s (grownCap W l.length 0 U))[j]? = some (.int .u8 ((l.getD j 0).toNat : Int)) := by
    rw [bytesRow_at s _ j hj2]
    subst hl
    simp [List.getD, Array.getElem?_eq_getElem hj2]
   have h9 : W.drew.heap.size = W.heap.size := rfl
   rw [h9] at hnew
   rw [Nat.zero_add]
   rw [hsz] at hnew
   simp only [World.cell?, hnew]
   simpa using hcell
  ·have hj' : j < l.length := by simpa using hj
   simp only [bytesA, List.getElem_map, List.getD, List.getElem?_eq_getElem hj', Option.getD_some]
   exact .val _
  ·rw [← hsz]; exact grownCap_ge ..
  ·exact grownCap_le_maxLen _ _ _ _ hm
end
end Go.Proofs.YtoonnnifelnaiaaGreatDoor.A

namespace Go.Proofs.YtoonnnifelnaiaaGreatDoor.A
open Go.RowKit L
set_option linter.unusedVariables false
set_option maxRecDepth 20000
set_option linter.unusedSimpArgs false

section
variable {P : Program} {ops : Array Oper} {N : Nat}

/-- What an operation leaves, its temporary told apart. -/
theorem Oper.wp_put {o : Oper} {a : Act} {w : World} {K : Act → World → Prop} {Q : Exit → Act → World → Prop} (h : o.wp P a w K Q) : o.wp P a w (fun A' W' => K A' W' ∧ ((∃ u, A' = a.put o.dst u) ∨ A'.defers ≠ [])) Q := by
 unfold Oper.wp at h ⊢
 cases hr : (execOp a.eval o).run P w with
 | ok n w' =>
  rw [hr] at h
  cases n with
  | value v => exact ⟨h, .inl ⟨v, rfl⟩⟩
  | skip => exact ⟨h, .inl ⟨_, rfl⟩⟩
  | defer d => exact ⟨h, .inr (by simp [Act.put]; split <;> simp)⟩
  | enter f args =>
   refine Calls.mono h ?_
   intro e w'' he
   cases e with
   | returned v => exact ⟨he, .inl ⟨v, rfl⟩⟩
   | _ => exact he
  | row r args =>
   refine Rows.mono h ?_
   intro v w'' he
   exact ⟨he, .inl ⟨v, rfl⟩⟩
  | _ => exact h
 | halt x w' =>
  rw [hr] at h
  cases x <;> exact h

theorem rst_skip {E : Env} {d : Nat} {v : AV} : ∀ {ts : List Nat}, d ∉ ts → rst ((d, v) :: E) ts = rst E ts
 | [], _ => rfl
 | t :: r, h => by
  simp only [List.mem_cons, not_or] at h
  have hb : Nat.beq d t = false := by
   cases hb : Nat.beq d t with
   | false => rfl
   | true => exact absurd (Nat.eq_of_beq_eq_true hb) h.1
  have hl : look ((d, v) :: E) t = look E t := by simp only [look, hb]; rfl
  rw [rst, rst, hl, rst_skip h.2]
theorem look_skip {E : Env} {d t : Nat} {v : AV} (h : d ≠ t) : look ((d, v) :: E) t = look E t := by
 have hb : Nat.beq d t = false := by
  cases hb : Nat.beq d t with
  | false => rfl
  | true => exact absurd (Nat.eq_of_beq_eq_true hb) h
 simp only [look, hb]; rfl
theorem look_here {E : Env} {d : Nat} {v : AV} : look ((d, v) :: E) d = some v := by simp [look]

/-- What a writing operation leaves. -/
def QS (Γ : Cx) (d : Option Nat) (S : AV → List HE → Prop) : Exit → Act → World → Prop := fun x a W =>
 match x with
 | .normal => a.defers = [] ∧ ∃ v H' R', S v H' ∧ RelS Γ R' H' W ∧ ∀ t, d = some t → RelV R' W v (a.eval (.tmp t))
 | _ => False
def putE : Option Nat → AV → Env → Env
 | some d, v, E => (d, v) :: E
 | none, _, E => E

/-- Operations in this order: true those that write, false those that read. -/
def AM (P : Program) (N : Nat) (ops : Array Oper) (Hs : List HE) (K : Env → List HE → Prop) : List (Nat × Bool) → Env → List HE → Prop
 | [], E, H => K E H
 | (i, true) :: r, E, H => ∃ o, ops[i]? = some o ∧ ∀ w0 R0, AO ⟨w0, footOf H, R0, N⟩ P ops (QS ⟨w0, footOf H, R0, N⟩ o.dst (fun v H' => AM P N ops Hs K r (putE o.dst v E) H')) [o] (rst E (o.looksAt ops)) H
 | (i, false) :: r, E, H => ∃ o d v, ops[i]? = some o ∧ o.dst = some d ∧ d < N ∧ OpF P N ops o (rst E (o.looksAt ops)) Hs (Is v) ∧ AM P N ops Hs K r ((d, v) :: E) H

/-- One operation ahead of another. -/
def ordPair (ops : Array Oper) (an : List (List Nat)) (i : Nat) (b : Bool) (j : Nat) (c : Bool) : Bool :=
 match ops[i]?, ops[j]? with
 | some oi, some oj =>
  let waits := oj.after.any fun e => Region.binds .any e && e.on == i
  let anc := (an.getD j []).contains i
  (i != j) && (!b || anc) &&
  (match oj.dst with
   | some d => if c then (!((oi.looksAt ops).contains d || oi.dst == some d)) || anc else !(oi.looksAt ops).contains d && oi.dst != some d
   | none => c) &&
  (match oi.dst with
   | some d => !(oj.looksAt ops).contains d || waits
   | none => true)
 | _, _ => false
def ordPairs (ops : Array Oper) (an : List (List Nat)) : List (Nat × Bool) → Bool
 | [] => true
 | (i, b) :: r => (b || (match ops[i]? with | some o => (match o.dst with | some d => !(o.looksAt ops).contains d | none => false) | none => false)) && r.all (fun q => ordPair ops an i b q.1 q.2) && ordPairs ops an r
def ordOk (ops : Array Oper) (ord : List (Nat × Bool)) : Bool :=
 ((List.range ops.size).all fun i => (ord.map Prod.fst).contains i) && (ord.all fun q => decide (q.1 < ops.size)) &&
 ((List.range ops.size).all fun i => (ops[i]?).all fun o => o.after.all fun e => !Region.binds .any e || decide (e.on < i)) && ordPairs ops (ancs ops.toList []) ord

theorem ordPairs_app {an : List (List Nat)} : ∀ {pre r : List (Nat × Bool)}, ordPairs ops an (pre ++ r) = true → ordPairs ops an r = true ∧ ∀ q ∈ pre, ∀ s ∈ r, ordPair ops an q.1 q.2 s.1 s.2 = true
 | [], r, h => ⟨h, fun q hq => by cases hq⟩
 | (i, b) :: pre, r, h => by
  rw [List.cons_append, ordPairs] at h
  simp only [Bool.and_eq_true, List.all_eq_true] at h
  obtain ⟨h1, h2⟩ := ordPairs_app h.2
  refine ⟨h1, fun q hq s hs => ?_⟩
  rcases List.mem_cons.1 hq with rfl | hq
  ·exact h.1.2 s (List.mem_append_right _ hs)
  ·exact h2 q hq s hs

structure PairOk (ops : Array Oper) (an : List (List Nat)) (i : Nat) (b : Bool) (oi : Oper) (j : Nat) (c : Bool) (oj : Oper) : Prop where
 ne : i ≠ j
 main : b = true → i ∈ an.getD j []
 flt : c = false → ∃ d, oj.dst = some d ∧ d ∉ oi.looksAt ops ∧ oi.dst ≠ some d
 mn : c = true → ∀ d, oj.dst = some d → (d ∈ oi.looksAt ops ∨ oi.dst = some d) → i ∈ an.getD j []
 reads : ∀ d, oi.dst = some d → d ∈ oj.looksAt ops → ∃ e ∈ oj.after, Region.binds .any e = true ∧ e.on = i
theorem pairOk {an : List (List Nat)} {i j : Nat} {b c : Bool} {oi oj : Oper} (h : ordPair ops an i b j c = true) (hi : ops[i]? = some oi) (hj : ops[j]? = some oj) : PairOk ops an i b oi j c oj := by
 unfold ordPair at h
 rw [hi, hj] at h
 simp only [Bool.and_eq_true, bne_iff_ne, ne_eq] at h
 obtain ⟨⟨⟨h1, h2⟩, h3⟩, h4⟩ := h
 refine ⟨h1, fun hb => ?_, fun hc => ?_, fun hc d hd hm => ?_, fun d hd hm => ?_⟩
 ·subst hb; simpa using h2
 ·subst hc
  cases hd : oj.dst with
  | none => rw [hd] at h3; cases h3
  | some d =>
   rw [hd] at h3
   simp at h3
   exact ⟨d, rfl, h3.1, h3.2⟩
 ·subst hc
  rw [hd] at h3
  simp at h3
  rcases h3 with h3 | h3
  ·rcases hm with hm | hm
   ·exact absurd hm h3.1
   ·exact absurd hm h3.2
  ·exact h3
 ·rw [hd] at h4
  simp only [Bool.or_eq_true, Bool.not_eq_true', List.contains_eq_mem, decide_eq_false_iff_not] at h4
  rcases h4 with h4 | h4
  ·exact absurd hm h4
  ·obtain ⟨x, hx, hx2⟩ := any_mem h4
   simp only [Bool.and_eq_true, beq_iff_eq] at hx2
   exact ⟨x, hx, hx2.1, hx2.2⟩

/-- Two steps, the first over all, the second over what it may write. -/
theorem RelS.part {Γ : Cx} {R R' : Nat → Prop} {Hm Hs H' : List HE} {W W' : World} (hs0 : RelS Γ R (Hm ++ Hs) W) (hs' : RelS ⟨W, footOf Hm, R, N⟩ R' H' W') : RelS Γ R' (H' ++ Hs) W' ∧ ∀ b, R b → W'.heap[b]? = W.heap[b]? := by
 have hS0 : ∀ b, footOf Hm b → Γ.w0.heap.size ≤ b ∨ Γ.S b := fun b ⟨e, he, hb⟩ => (hs0.own e (List.mem_append_left _ he) b hb).1
 have hnR : ∀ b, footOf Hm b → ¬ R b := fun b ⟨e, he, hb⟩ => (hs0.own e (List.mem_append_left _ he) b hb).2
 have h1lt : ∀ e ∈ Hs, ∀ b, e.foot b → b < W.heap.size := fun e he b hb => HE.ok_lt (hs0.ok e (List.mem_append_right _ he)) hb
 have h10 : ∀ e ∈ Hs, ∀ b, e.foot b → ¬ footOf Hm b := fun e he b hb ⟨f, hf, hb'⟩ => (List.pairwise_append.1 hs0.disj).2.2 f hf e he b hb' hb
 have hR : ∀ b, R b → W'.heap[b]? = W.heap[b]? := fun b hb => hs'.mods.block b (hs0.rlt b hb) fun hh => hnR b hh hb
 refine ⟨⟨Mods.then hs0.mods hs'.mods fun b hb hh => ?_, hs'.rlt, fun b hb => hs'.rsub b (hs0.rsub b hb), fun b hb => ?_, ?_, ?_, ?_⟩, hR⟩
 ·rcases hS0 b hh with h | h
  ·omega
  ·exact h
 ·rcases hs'.rnew b hb with h | h | h
  ·exact hs0.rnew b h
  ·exact .inr (.inl (Nat.le_trans hs0.mods.size h))
  ·exact .inr (hS0 b h)
 ·intro e he
  rcases List.mem_append.1 he with he | he
  ·exact hs'.ok e he
  ·exact HE.ok_mono hs'.rsub hR hs'.mods.size (fun b hb => hs'.mods.block b (h1lt e he b hb) (h10 e he b hb)) (hs0.ok e (List.mem_append_right _ he))
 ·intro e he b hb
  rcases List.mem_append.1 he with he | he
  ·obtain ⟨h2, h3⟩ := hs'.own e he b hb
   refine ⟨?_, h3⟩
   rcases h2 with h2 | h2
   ·exact .inl (Nat.le_trans hs0.mods.size h2)
   ·exact hS0 b h2
  ·refine ⟨(hs0.own e (List.mem_append_right _ he) b hb).1, fun hr => ?_⟩
   rcases hs'.rnew b hr with h | h | h
   ·exact (hs0.own e (List.mem_append_right _ he) b hb).2 h
   ·have h5 := h1lt e he b hb
    exact absurd h (by simpa using h5)
   ·exact h10 e he b hb h
 ·rw [List.pairwise_append]
  refine ⟨hs'.disj, (List.pairwise_append.1 hs0.disj).2.1, fun e he f hf b hb hb' => ?_⟩
  rcases (hs'.own e he b hb).1 with h | h
  ·have h5 := h1lt f hf b hb'
   exact absurd h (by simpa using h5)
  ·exact h10 f hf b hb' h

/-- The state on the way. -/
structure MI (P : Program) (Γ : Cx) (ops : Array Oper) (Hs : List HE) (K : Env → List HE → Prop) (ord : List (Nat × Bool)) (listed : Array Bool) (A : Act) (W : World) (pre ms : List (Nat × Bool)) (Pd : List Nat) (E : Env) (H : List HE) (R : Nat → Prop) : Prop where
 size : listed.size = ops.size
 closed : Closed ops listed
 part : ∀ i, i < ops.size → (listed.getD i false = false ↔ i ∈ Pd ∨ i ∈ ms.map Prod.fst)
 ord : ord = pre ++ ms
 pdp : ∀ i ∈ Pd, (i, false) ∈ pre
 am : AM P Γ.N ops Hs K ms E H
 pend : ∀ i ∈ Pd, ∃ o d v, ops[i]? = some o ∧ o.dst = some d ∧ d < Γ.N ∧ look E d = some v ∧ OpF P Γ.N ops o (rst E (o.looksAt ops)) Hs (Is v)
 rels : RelS Γ R (H ++ Hs) W
 defers : A.defers = []
 tmps : A.tmps.size = Γ.N
 act : ∀ t v, look E t = some v → (∀ i ∈ Pd, ∀ o, ops[i]? = some o → o.dst ≠ some t) → RelV R W v (A.eval (.tmp t))

variable {Γ : Cx} {Hs : List HE} {K : Env → List HE → Prop} {ord : List (Nat × Bool)}

/-- What reads is pending as soon as it may run. -/
theorem MI.absorb {listed : Array Bool} {A : Act} {W : World} {R : Nat → Prop} (hok : ordPairs ops (ancs ops.toList []) ord = true) : ∀ (ms pre : List (Nat × Bool)) (Pd : List Nat) (E : Env) (H : List HE), MI P Γ ops Hs K ord listed A W pre ms Pd E H R →
  ∃ pre' ms' Pd' E', MI P Γ ops Hs K ord listed A W pre' ms' Pd' E' H R ∧ (ms' = [] ∨ ∃ m r, ms' = (m, true) :: r)
 | [], pre, Pd, E, H, h => ⟨pre, [], Pd, E, h, .inl rfl⟩
 | (m, true) :: r, pre, Pd, E, H, h => ⟨pre, _, Pd, E, h, .inr ⟨m, r, rfl⟩⟩
 | (j, false) :: r, pre, Pd, E, H, h => by
  obtain ⟨o, d, v, ho, hd, hN, hop, ham⟩ := h.am
  have hord := h.ord
  have hq := ordPairs_app (pre := pre) (r := (j, false) :: r) (by rw [← hord]; exact hok)
  have hself : d ∉ o.looksAt ops := by
   have := hq.1
   rw [ordPairs] at this
   simp only [Bool.and_eq_true, ho, hd, Bool.false_or] at this
   simpa using this.1.1
  have hp : ∀ i ∈ Pd, ∀ oi, ops[i]? = some oi → d ∉ oi.looksAt ops ∧ oi.dst ≠ some d := fun i hi oi hoi => by
   have := pairOk (hq.2 _ (h.pdp i hi) (j, false) (List.mem_cons_self ..)) hoi ho
   obtain ⟨d', h1, h2, h3⟩ := this.flt rfl
   rw [hd] at h1
   cases h1
   exact ⟨h2, h3⟩
  refine MI.absorb hok r (pre ++ [(j, false)]) (j :: Pd) ((d, v) :: E) H ⟨h.size, h.closed, fun i hi => ?_, by rw [hord]; simp, fun i hi => ?_, ham, fun i hi => ?_, h.rels, h.defers, h.tmps, fun t x ht hpd => ?_⟩
  ·rw [h.part i hi]
   simp only [List.map_cons, List.mem_cons]
   constructor
   ·rintro (h | h | h)
    ·exact .inl (.inr h)
    ·exact .inl (.inl h)
    ·exact .inr h
   ·rintro ((h | h) | h)
    ·exact .inr (.inl h)
    ·exact .inl h
    ·exact .inr (.inr h)
  ·rcases List.mem_cons.1 hi with rfl | hi
   ·simp
   ·exact List.mem_append_left _ (h.pdp i hi)
  ·rcases List.mem_cons.1 hi with rfl | hi
   ·exact ⟨o, d, v, ho, hd, hN, look_here, by rw [rst_skip hself]; exact hop⟩
   ·obtain ⟨oi, di, vi, h1, h2, h3, h4, h5⟩ := h.pend i hi
    obtain ⟨h6, h7⟩ := hp i hi oi h1
    refine ⟨oi, di, vi, h1, h2, h3, ?_, by rw [rst_skip h6]; exact h5⟩
    rw [look_skip (fun e => h7 (by rw [h2, e]))]; exact h4
  ·have hne : d ≠ t := fun e => hpd j (List.mem_cons_self ..) o ho (by rw [hd, e])
   rw [look_skip hne] at ht
   exact h.act t x ht fun i hi => hpd i (List.mem_cons_of_mem _ hi)

theorem MI.reads {listed : Array Bool} {A : Act} {W : World} {R : Nat → Prop} {pre ms : List (Nat × Bool)} {Pd : List Nat} {E : Env} {H : List HE} (hok : ordPairs ops (ancs ops.toList []) ord = true) (h : MI P Γ ops Hs K ord listed A W pre ms Pd E H R)
  {i : Nat} {b : Bool} {o : Oper} (ho : ops[i]? = some o) (hdeps : ∀ e ∈ o.after, Region.binds .any e = true → listed.getD e.on false = true) (hi : (i, b) ∈ pre ∧ i ∈ Pd ∧ b = false ∨ ∃ r, ms = (i, b) :: r) : RelA Γ.N R W (rst E (o.looksAt ops)) A := by
 refine ⟨h.defers, h.tmps, fun t v ht => ?_⟩
 obtain ⟨htl, ht⟩ := look_rst ht
 refine h.act t v ht fun k hk ok hok' hdk => ?_
 have hkp := h.pdp k hk
 have hkf : listed.getD k false = false := (h.part k (Array.getElem?_eq_some_iff.1 hok').1).2 (.inl hk)
 have direct : ordPair ops (ancs ops.toList []) k false i b = true → False := fun hp => by
  obtain ⟨e, he, hb, hon⟩ := (pairOk hp hok' ho).reads t hdk htl
  have := hdeps e he hb
  rw [hon, hkf] at this; cases this
 rcases hi with ⟨hip, hiP, rfl⟩ | ⟨r, hms⟩
 ·-- both ahead
  obtain ⟨p1, p2, hp12⟩ := List.append_of_mem hkp
  have hord := h.ord
  rw [hp12, List.append_assoc] at hord
  rw [hp12] at hip
  rcases List.mem_append.1 hip with hip | hip
  ·-- i ahead of k
   have hq := ordPairs_app (pre := p1) (by rw [← hord]; exact hok)
   have := pairOk (hq.2 _ hip (k, false) (List.mem_cons_self ..)) ho hok'
   obtain ⟨d', h1, h2, -⟩ := this.flt rfl
   rw [hdk] at h1; cases h1
   exact h2 htl
  ·rcases List.mem_cons.1 hip with he | hip
   ·cases he
    -- itself
    have hq := (ordPairs_app (pre := p1) (by rw [← hord]; exact hok)).1
    rw [List.cons_append, ordPairs] at hq
    simp only [Bool.and_eq_true] at hq
    obtain rfl : o = ok := by rw [ho] at hok'; exact Option.some.inj hok'
    have := hq.1.1
    rw [ho] at this
    simp only [hdk, Bool.false_or] at this
    simp at this
    exact this htl
   ·rw [show p1 ++ ((k, false) :: p2 ++ ms) = (p1 ++ [(k, false)]) ++ (p2 ++ ms) by simp] at hord
    have hq := ordPairs_app (pre := p1 ++ [(k, false)]) (by rw [← hord]; exact hok)
    exact direct (hq.2 (k, false) (by simp) (i, false) (List.mem_append_left _ hip))
 ·have hq := ordPairs_app (pre := pre) (r := ms) (by rw [← h.ord]; exact hok)
  exact direct (hq.2 _ hkp (i, b) (by rw [hms]; exact List.mem_cons_self ..))

/-- What the region may write, and what not. -/
def SplitH (E : Env) (H Hm Hs : List HE) : Prop := H.Perm (Hm ++ Hs)
theorem splitNil {E : Env} {H : List HE} : SplitH E H [] H := List.Perm.refl _
theorem splitAt' (i : Nat) {E : Env} {H Hm Hs : List HE} {e : HE} (h : H[i]? = some e) (hr : SplitH E (H.eraseIdx i) Hm Hs) : SplitH E H (e :: Hm) Hs := (perm_idx h).trans (List.Perm.cons e hr)
theorem splitRow (t i : Nat) {E : Env} {H Hm Hs : List HE} {v : Value} {T sz n : Nat} {xs : List AV} (hl : look E t = some (.val v)) (h : H[i]? = some (.row v T sz n xs)) (hr : SplitH E (H.eraseIdx i) Hm Hs) : SplitH E H (.row v T sz n xs :: Hm) Hs := splitAt' i h hr
theorem splitBlk (t i : Nat) {E : Env} {H Hm Hs : List HE} {b o T room : Nat} {xs : List AV} (hl : look E t = some (.val (.pointer (some ⟨b, o, none⟩)))) (h : H[i]? = some (.blk b T room xs)) (hr : SplitH E (H.eraseIdx i) Hm Hs) : SplitH E H (.blk b T room xs :: Hm) Hs := splitAt' i h hr
theorem splitSl (t i : Nat) {E : Env} {H Hm Hs : List HE} {b o n c T room : Nat} {xs : List AV} (hl : look E t = some (.val (.slice (some ⟨b, o, none⟩) n c))) (h : H[i]? = some (.blk b T room xs)) (hr : SplitH E (H.eraseIdx i) Hm Hs) : SplitH E H (.blk b T room xs :: Hm) Hs := splitAt' i h hr

theorem AW.regionM {Q : Exit → Act → World → Prop} {E : Env} {H : List HE} {id : Nat} {l : List Oper} (ord : List (Nat × Bool)) {Hm Hs : List HE} (hm : P.follows .mixedOrders = true) (hok : ordOk l.toArray ord = true) (hH : SplitH E H Hm Hs)
  (h : AM P Γ.N l.toArray Hs (fun E' H' => AQ Γ Q .normal E' (H' ++ Hs)) ord E Hm) : AW Γ P Q (.region id l.toArray true) E H := fun R a W hs0 ha0 => by
 obtain ⟨ops, hops⟩ : ∃ ops, ops = l.toArray := ⟨_, rfl⟩
 rw [← hops] at h hok
 simp only [ordOk, Bool.and_eq_true, List.all_eq_true, List.mem_range] at hok
 obtain ⟨⟨⟨hall, hlt⟩, hbk⟩, hpairs⟩ := hok
 have hback : ∀ i o, ops[i]? = some o → ∀ e ∈ o.after, Region.binds .any e = true → e.on < i := fun i o ho e he hb => by
  have hi : i < ops.size := (Array.getElem?_eq_some_iff.1 ho).1
  have := hbk i hi
  rw [ho] at this
  simp only [Option.all_some] at this
  have := Array.all_eq_true_iff_forall_mem.1 this e he
  simpa [hb] using this
 have main : ∀ (fuel : Nat) (listed : Array Bool) (A : Act) (W : World) (pre ms : List (Nat × Bool)) (Pd : List Nat) (E : Env) (H : List HE) (R : Nat → Prop), fuel = listed.toList.count false →
   MI P Γ ops Hs (fun E' H' => AQ Γ Q .normal E' (H' ++ Hs)) ord listed A W pre ms Pd E H R → (ms = [] ∨ ∃ m r, ms = (m, true) :: r) → wpAny P .any ops Q fuel listed A W := by
  intro fuel
  induction fuel with
  | zero =>
   intro listed A W pre ms Pd E H R hc hI hhd
   have hlist : ∀ i, i < ops.size → listed.getD i false = true := by
    intro i hi
    have hi' : i < listed.size := by rw [hI.size]; exact hi
    cases hb : listed.getD i false with
    | true => rfl
    | false =>
     exfalso
     have hm : false ∈ listed.toList := by
      rw [← hb]; simp [Array.getD, hi']
     have := List.count_pos_iff.2 hm
     omega
   have hin : ∀ i b, (i, b) ∈ ord → i < ops.size := fun i b hib => by have := hlt _ hib; simpa using this
   have hms : ms = [] := by
    rcases hhd with h | ⟨m, r, h⟩
    ·exact h
    ·have h1 := hin m true (by rw [hI.ord, h]; simp)
     have := (hI.part m h1).2 (.inr (by rw [h]; simp))
     rw [hlist m h1] at this; cases this
   have hPd : Pd = [] := by
    rw [List.eq_nil_iff_forall_not_mem]
    intro i hi
    have h1 := hin i false (by rw [hI.ord]; exact List.mem_append_left _ (hI.pdp i hi))
    have := (hI.part i h1).2 (.inl hi)
    rw [hlist i h1] at this; cases this
   subst hms
   subst hPd
   refine ⟨?_, hI.am R A W hI.rels ⟨hI.defers, hI.tmps, fun t v ht => hI.act t v ht fun i hi => (by cases hi)⟩⟩
   rw [List.eq_nil_iff_forall_not_mem]
   intro i hi
   obtain ⟨h0, o, ho, _⟩ := mem_ready.1 hi
   have hi' : i < ops.size := (Array.getElem?_eq_some_iff.1 ho).1
   have := hlist i hi'
   rw [← getD_tf (by rw [hI.size]; exact hi')] at this
   rw [this] at h0; cases h0
  | succ fuel ih =>
   intro listed A W pre ms Pd E H R hc hI hhd
   have hne : ∃ i, i ∈ Region.ready .any ops listed := by
    have hex : ∃ i, i < ops.size ∧ listed.getD i false = false := by
     have hpos : 0 < listed.toList.count false := by omega
     obtain ⟨i, hi, hf⟩ := List.getElem_of_mem (List.count_pos_iff.1 hpos)
     have hi' : i < listed.size := by simpa using hi
     exact ⟨i, by rw [← hI.size]; exact hi', by simpa [Array.getD, hi'] using hf⟩
    obtain ⟨i, ⟨hi, hf⟩, hmin⟩ : ∃ i, (i < ops.size ∧ listed.getD i false = false) ∧ ∀ j, j < i → ¬ (j < ops.size ∧ listed.getD j false = false) := by
     obtain ⟨i, h⟩ := hex
     exact least ⟨i, h⟩
    have hio : ops[i]? = some ops[i] := by simp [hi]
    refine ⟨i, mem_ready.2 ⟨by rw [getD_tf (by rw [hI.size]; exact hi)]; exact hf, _, hio, fun e he hb => ?_⟩⟩
    have := hback i _ hio e he hb
    cases hb2 : listed.getD e.on false with
    | true => rfl
    | false => exact absurd ⟨by omega, hb2⟩ (hmin e.on this)
   refine ⟨fun e => (by obtain ⟨i, hi⟩ := hne; rw [e] at hi; cases hi), fun i hi => ?_⟩
   obtain ⟨h0, o, ho, hdeps⟩ := mem_ready.1 hi
   have hio : i < ops.size := (Array.getElem?_eq_some_iff.1 ho).1
   have hf : listed.getD i false = false := by rw [← getD_tf (by rw [hI.size]; exact hio)]; exact h0
   have hil : i < listed.size := by rw [hI.size]; exact hio
   have hanc : ∀ j, j ∈ (ancs ops.toList []).getD i [] → listed.getD j false = true := fun j hj => anc_listed hI.closed hback i o ho hdeps j hj
   have hcl := closed_set hI.closed ho hil hdeps
   have hcnt : fuel = (listed.setIfInBounds i true).toList.count false := by
    have hcs := count_set_true listed.toList i (by simpa using hil) (by simpa [Array.getD, hil] using hf)
    simp only [Array.toList_setIfInBounds]
    omega
   have hgd : ∀ k, k ≠ i → (listed.setIfInBounds i true).getD k false = listed.getD k false := fun k hk => getD_set_ne false (Ne.symm hk)
   have hgi : (listed.setIfInBounds i true).getD i false = true := by simp [Array.getD, hil]
   have hsz : (listed.setIfInBounds i true).size = ops.size := by simpa using hI.size
   rcases (hI.part i hio).1 hf with hPd | hms
   ·-- one that reads
    obtain ⟨o', d, v, ho', hd, hN, hlk, hop⟩ := hI.pend i hPd
    obtain rfl : o = o' := by rw [ho] at ho'; exact Option.some.inj ho'
    have hA := hI.reads hpairs ho hdeps (b := false) (.inl ⟨hI.pdp i hPd, hPd, rfl⟩)
    have hs := hop R A W hI.rels.rlt (fun e he => hI.rels.ok e (List.mem_append_right _ he)) (fun e he b hb => (hI.rels.own e (List.mem_append_right _ he) b hb).2) hA
    have hnext : ∀ u W', (∃ v' Hn R', Is v v' Hn ∧ Post1 R W v' Hn u W' R') → wpAny P .any ops Q fuel (listed.setIfInBounds i true) (A.put o.dst u) W' := by
     rintro u W' ⟨v', Hn, R', ⟨rfl, rfl⟩, hp⟩
     have hnm : i ∉ ms.map Prod.fst := fun hm => by
      obtain ⟨⟨j, c⟩, hq, hji⟩ := List.mem_map.1 hm
      have hq2 := (ordPairs_app (pre := pre) (r := ms) (by rw [← hI.ord]; exact hpairs)).2 _ (hI.pdp i hPd) _ hq
      simp only at hji
      subst hji
      exact (pairOk hq2 ho ho).ne rfl
     refine ih _ _ _ pre ms (Pd.filter (· ≠ i)) E H R' hcnt ⟨hsz, hcl, fun k hk => ?_, hI.ord, fun k hk => hI.pdp k (List.mem_filter.1 hk).1, hI.am, fun k hk => hI.pend k (List.mem_filter.1 hk).1, by simpa using hI.rels.step hp, ?_, ?_, fun t x ht hpd => ?_⟩ hhd
     ·by_cases hki : k = i
      ·subst hki
       rw [hgi]
       simp [hnm]
      ·rw [hgd k hki, hI.part k hk]
       simp [hki]
     ·rw [hd]; exact hI.defers
     ·rw [hd]; simp [Act.put, hI.tmps]
     ·rw [hd]
      by_cases hdt : d = t
      ·subst hdt
       rw [hlk] at ht
       cases ht
       rw [eval_put_same (by rw [hI.tmps]; exact hN)]; exact hp.val
      ·rw [eval_put_other hdt]
       refine (hI.act t x ht fun k hk ok hok hdk => ?_).mono hp.sub (extSame hp.ext hI.rels.rlt)
       by_cases hki : k = i
       ·subst hki
        rw [ho] at hok
        cases hok
        rw [hd] at hdk
        cases hdk
        exact hdt rfl
       ·exact hpd k (List.mem_filter.2 ⟨hk, by simpa using hki⟩) ok hok hdk
    unfold wpOp
    rw [ho]
    unfold FStep at hs
    show if Region.wanted o (yielded ops A.tmps) = true then _ else _
    split
    ·rename_i hw
     rw [if_pos hw] at hs
     refine .inl (Oper.wp_mono ?_ (wp_of_noQ hs))
     rintro A' W' ⟨u, rfl, hp⟩
     exact hnext u W' hp
    ·rename_i hw
     rw [if_neg hw] at hs
     exact hnext _ _ hs
   ·-- the next that writes
    rcases hhd with rfl | ⟨m, r, rfl⟩
    ·cases hms
    have hmlt : m < ops.size := by have := hlt (m, true) (by rw [hI.ord]; simp); simpa using this
    have hmf : listed.getD m false = false := (hI.part m hmlt).2 (.inr (by simp))
    have him : i = m := by
     rcases List.mem_cons.1 hms with h | h
     ·exact h
     ·exfalso
      obtain ⟨⟨j, c⟩, hq, hji⟩ := List.mem_map.1 h
      simp only at hji
      subst hji
      have h9 := (ordPairs_app (pre := pre ++ [(m, true)]) (r := r) (by have := hI.ord; rw [List.append_assoc, List.singleton_append, ← this]; exact hpairs)).2 (m, true) (by simp) _ hq
      have hom : ops[m]? = some ops[m] := by simp [hmlt]
      have := hanc m ((pairOk h9 hom ho).main rfl)
      rw [hmf] at this; cases this
    subst him
    obtain ⟨o', ho', hAO⟩ := hI.am
    obtain rfl : o = o' := by rw [ho] at ho'; exact Option.some.inj ho'
    have hA := hI.reads hpairs ho hdeps (b := true) (.inr ⟨r, rfl⟩)
    have hs := hAO W R R A W ⟨Mods.refl _ _, hI.rels.rlt, fun _ h => h, fun _ h => .inl h, fun e he => hI.rels.ok e (List.mem_append_left _ he), fun e he b hb => ⟨.inr ⟨e, he, hb⟩, (hI.rels.own e (List.mem_append_left _ he) b hb).2⟩, (List.pairwise_append.1 hI.rels.disj).1⟩ hA
    have hnext : ∀ u W', QS ⟨W, footOf H, R, Γ.N⟩ o.dst (fun v H' => AM P Γ.N ops Hs (fun E' H' => AQ Γ Q .normal E' (H' ++ Hs)) r (putE o.dst v E) H') .normal (A.put o.dst u) W' → wpAny P .any ops Q fuel (listed.setIfInBounds i true) (A.put o.dst u) W' := by
     rintro u W' ⟨hdf, v, H', R', ham, hsr, hvr⟩
     obtain ⟨hrel, hRW⟩ := RelS.part hI.rels hsr
     have hpd : ∀ k ∈ Pd, ∀ ok, ops[k]? = some ok → ∀ d, o.dst = some d → d ∉ ok.looksAt ops ∧ ok.dst ≠ some d := fun k hk ok hok d hd => by
      have h9 := (ordPairs_app (pre := pre) (r := (i, true) :: r) (by rw [← hI.ord]; exact hpairs)).2 _ (hI.pdp k hk) (i, true) (List.mem_cons_self ..)
      have hkf : listed.getD k false = false := (hI.part k (Array.getElem?_eq_some_iff.1 hok).1).2 (.inl hk)
      have hno : k ∉ (ancs ops.toList []).getD i [] := fun hm => by
       have := hanc k hm
       rw [hkf] at this; cases this
      exact ⟨fun hm => hno ((pairOk h9 hok ho).mn rfl d hd (.inl hm)), fun he => hno ((pairOk h9 hok ho).mn rfl d hd (.inr he))⟩
     have hnr : i ∉ r.map Prod.fst := fun hm => by
      obtain ⟨⟨j, c⟩, hq, hji⟩ := List.mem_map.1 hm
      have h9 := (ordPairs_app (pre := pre ++ [(i, true)]) (r := r) (by have := hI.ord; rw [List.append_assoc, List.singleton_append, ← this]; exact hpairs)).2 (i, true) (by simp) _ hq
      simp only at hji
      subst hji
      exact (pairOk h9 ho ho).ne rfl
     have hnp : i ∉ Pd := fun hk => by
      have h9 := (ordPairs_app (pre := pre) (r := (i, true) :: r) (by rw [← hI.ord]; exact hpairs)).2 _ (hI.pdp i hk) (i, true) (List.mem_cons_self ..)
      exact (pairOk h9 ho ho).ne rfl
     have hI' : MI P Γ ops Hs (fun E' H' => AQ Γ Q .normal E' (H' ++ Hs)) ord (listed.setIfInBounds i true) (A.put o.dst u) W' (pre ++ [(i, true)]) r Pd (putE o.dst v E) H' R' := by
      refine ⟨hsz, hcl, fun k hk => ?_, by rw [hI.ord]; simp, fun k hk => List.mem_append_left _ (hI.pdp k hk), ham, fun k hk => ?_, hrel, hdf, ?_, fun t x ht hp => ?_⟩
      ·by_cases hki : k = i
       ·subst hki
        rw [hgi]
        simp [hnr, hnp]
       ·rw [hgd k hki, hI.part k hk]
        simp [hki]
      ·obtain ⟨ok, dk, vk, h1, h2, h3, h4, h5⟩ := hI.pend k hk
       refine ⟨ok, dk, vk, h1, h2, h3, ?_, ?_⟩
       ·cases hd : o.dst with
        | none => exact h4
        | some d => rw [putE, look_skip (fun e => (hpd k hk ok h1 d hd).2 (by rw [h2, e]))]; exact h4
       ·cases hd : o.dst with
        | none => exact h5
        | some d => rw [putE, rst_skip (hpd k hk ok h1 d hd).1]; exact h5
      ·cases hd : o.dst <;> simp [Act.put, hI.tmps]
      ·cases hd : o.dst with
       | none =>
        rw [hd] at ht
        exact (hI.act t x ht hp).mono hsr.rsub hRW
       | some d =>
        rw [hd, putE] at ht
        by_cases hdt : d = t
        ·subst hdt
         rw [look_here] at ht
         cases ht
         have := hvr d hd
         rwa [hd] at this
        ·rw [look_skip hdt] at ht
         rw [eval_put_other hdt]
         exact (hI.act t x ht hp).mono hsr.rsub hRW
     obtain ⟨pre', ms', Pd', E', hI2, hh2⟩ := hI'.absorb hpairs
     exact ih _ _ _ pre' ms' Pd' E' H' R' hcnt hI2 hh2
    unfold wpOp
    rw [ho]
    unfold wpList at hs
    show if Region.wanted o (yielded ops A.tmps) = true then _ else _
    split
    ·rename_i hw
     rw [if_pos hw] at hs
     refine .inl ?_
     rcases hs with hs | ⟨-, a', w', hl⟩
     ·have hs2 : o.wp P A W (wpList P ops (QS ⟨W, footOf H, R, Γ.N⟩ o.dst (fun v H' => AM P Γ.N ops Hs (fun E' H' => AQ Γ Q .normal E' (H' ++ Hs)) r (putE o.dst v E) H')) []) NoQ := by
       unfold Oper.wp at hs ⊢
       revert hs
       cases (execOp A.eval o).run P W with
       | ok n w' =>
        cases n with
        | enter f args =>
         intro hs
         refine Calls.mono hs ?_
         intro e w'' he
         cases e with
         | returned v => exact he
         | outgrown => obtain ⟨a', w', hl⟩ := he; exact hl.elim
         | _ => exact he.elim
        | _ => exact fun h => h
       | halt x w' => cases x <;> exact fun h => h
      refine Oper.wp_mono ?_ (wp_of_noQ (Oper.wp_put hs2))
      rintro A' W' ⟨hq, hA'⟩
      have hq' : QS ⟨W, footOf H, R, Γ.N⟩ o.dst (fun v H' => AM P Γ.N ops Hs (fun E' H' => AQ Γ Q .normal E' (H' ++ Hs)) r (putE o.dst v E) H') .normal A' W' := hq
      rcases hA' with ⟨u, rfl⟩ | hnd
      ·exact hnext u W' hq'
      ·exact absurd hq'.1 hnd
     ·exact hl.elim
    ·rename_i hw
     rw [if_neg hw] at hs
     exact hnext _ _ hs
 have hs : RelS Γ R (Hm ++ Hs) W.drew := (RelS.perm ⟨hs0.mods.drew, hs0.rlt, hs0.rsub, hs0.rnew, fun e he => HE.ok_mono (W := W) (W' := W.drew) (fun _ h => h) (fun _ _ => rfl) (Nat.le_refl _) (fun _ _ => rfl) (hs0.ok e he), hs0.own, hs0.disj⟩ hH.symm)
 have ha : RelA Γ.N R W.drew E a := ha0.mono (fun _ h => h) (fun _ _ => rfl)
 refine wp_region_any hm ?_
 rw [← hops]
 have hI : MI P Γ ops Hs (fun E' H' => AQ Γ Q .normal E' (H' ++ Hs)) ord (Array.replicate ops.size false) a W.drew [] ord [] E Hm R := by
  refine ⟨by simp, fun i o hl => ?_, fun i hi => ?_, rfl, fun i hi => (by cases hi), h, fun i hi => (by cases hi), hs, ha.defers, ha.size, fun t v ht _ => ha.slots t v ht⟩
  ·exfalso
   by_cases h : i < ops.size <;> simp [Array.getD, h] at hl
  ·have := hall i hi
   simp only [List.contains_eq_mem, decide_eq_true_eq] at this
   simp [Array.getD, hi, this]
 obtain ⟨pre', ms', Pd', E', hI2, hh2⟩ := hI.absorb hpairs
 exact main _ _ _ _ pre' ms' Pd' E' Hm R (by simp) hI2 hh2

/-! One operation. -/
theorem AM.op {i d : Nat} {r : List (Nat × Bool)} {E : Env} {H : List HE} {o : Oper} {v : AV} (ho : ops[i]? = some o) (h : OpW P N o (rst E (o.looksAt ops)) Hs (Is v)) (hw : wantedIs ops (rst E (o.looksAt ops)) o = some true) (hd : o.dst = some d) (hN : Nat.ble (d + 1) N = true) (k : AM P N ops Hs K r ((d, v) :: E) H) :
  AM P N ops Hs K ((i, false) :: r) E H := ⟨o, d, v, ho, hd, Nat.le_of_ble_eq_true hN, .run hw h, k⟩
theorem AM.opG {i d : Nat} {r : List (Nat × Bool)} {E : Env} {H : List HE} {o : Oper} {c : Bool} {v : AV} (ho : ops[i]? = some o) (hw : guardIs ops (rst E (o.looksAt ops)) o = some c) (hd : o.dst = some d) (hN : Nat.ble (d + 1) N = true) (h : c = true → OpW P N o (rst E (o.looksAt ops)) Hs (Is v)) (k : AM P N ops Hs K r ((d, .opt c v) :: E) H) :
  AM P N ops Hs K ((i, false) :: r) E H := ⟨o, d, _, ho, hd, Nat.le_of_ble_eq_true hN, .opt hw h, k⟩
theorem AM.no {i d : Nat} {r : List (Nat × Bool)} {E : Env} {H : List HE} {o : Oper} (ho : ops[i]? = some o) (hw : wantedIs ops (rst E (o.looksAt ops)) o = some false) (hd : o.dst = some d) (hN : Nat.ble (d + 1) N = true) (k : AM P N ops Hs K r ((d, .val undef) :: E) H) :
  AM P N ops Hs K ((i, false) :: r) E H := ⟨o, d, _, ho, hd, Nat.le_of_ble_eq_true hN, .no hw, k⟩
theorem AM.main {i : Nat} {r : List (Nat × Bool)} {E : Env} {H : List HE} (o : Oper) (ho : ops[i]? = some o) (h : ∀ w0 R0, AO ⟨w0, footOf H, R0, N⟩ P ops (QS ⟨w0, footOf H, R0, N⟩ o.dst (fun v H' => AM P N ops Hs K r (putE o.dst v E) H')) [o] (rst E (o.looksAt ops)) H) :
  AM P N ops Hs K ((i, true) :: r) E H := ⟨o, ho, h⟩
theorem AM.ok {w0 : World} {S0 R0 : Nat → Prop} {d : Nat} {v : AV} {S : AV → List HE → Prop} {E1 : Env} {H' : List HE} (h : S v H') : AO ⟨w0, S0, R0, N⟩ P ops (QS ⟨w0, S0, R0, N⟩ (some d) S) [] ((d, v) :: E1) H' := fun R a W hs ha =>
 ⟨ha.defers, v, H', R, h, hs, fun t ht => by cases ht; exact ha.slots d v look_here⟩
theorem AM.okN {w0 : World} {S0 R0 : Nat → Prop} {S : AV → List HE → Prop} {E1 : Env} {H' : List HE} (h : S (.val undef) H') : AO ⟨w0, S0, R0, N⟩ P ops (QS ⟨w0, S0, R0, N⟩ none S) [] E1 H' := fun R a W hs ha =>
 ⟨ha.defers, _, H', R, h, hs, fun t ht => by cases ht⟩
theorem AM.nil {E : Env} {H : List HE} (h : K E H) : AM P N ops Hs K [] E H := h
end
end Go.Proofs.YtoonnnifelnaiaaGreatDoor.A

namespace Go.Proofs.YtoonnnifelnaiaaGreatDoor.A
open Go.RowKit L
set_option linter.unusedVariables false
set_option maxRecDepth 20000
set_option linter.unusedSimpArgs false
theorem wraps_i64 (n : Int) (h0 : 0 ≤ n) (h1 : n < 2 ^ 63) : IntKind.i64.wrap n = n := by rw [IntKind.wrap_i64]; omega
section
variable {x y q m : Int}
theorem andI64 (i : Nat) (hi : i ≤ 63) (hq : q = 2 ^ i - 1) (hm : m = 2 ^ i) (h : 0 ≤ x ∧ x ≤ 9223372036854775807) : Go.bits .and .i64 x q = x % m := by
 subst hq; subst hm; exact bits_mask .i64 63 (by decide) wraps_i64 i hi x h.1 (by omega)
theorem orU8 (i : Nat) (hm : m = 2 ^ i) (hx : 0 ≤ x ∧ x ≤ 255 ∧ x % m = 0) (hy : 0 ≤ y ∧ y < m ∧ y ≤ 255) : Go.bits .or .u8 x y = x + y := by
 subst hm; exact bits_join .u8 8 (by decide) wraps_u8 i x y hx.1 hx.2.2 (by omega) hy.1 hy.2.1 (by omega)
theorem orI64 (i : Nat) (hm : m = 2 ^ i) (hx : 0 ≤ x ∧ x ≤ 9223372036854775807 ∧ x % m = 0) (hy : 0 ≤ y ∧ y < m ∧ y ≤ 9223372036854775807) : Go.bits .or .i64 x y = x + y := by
 subst hm; exact bits_join .i64 63 (by decide) wraps_i64 i x y hx.1 hx.2.2 (by omega) hy.1 hy.2.1 (by omega)
theorem andFI64 {a c : Nat} (ha : a < 9223372036854775808) (hc : c < 9223372036854775808) : Go.bits .and .i64 (a : Int) (c : Int) = ((a &&& c : Nat) : Int) := (bits_nat .i64 63 (by decide) wraps_i64 a c ha hc).1
end
section
variable {Γ : Cx} {P : Program} {E : Env} {H : List HE} {N : Nat} {o : Oper}
theorem O.shrK (j : Nat) (m : Int) {T T' : Nat} {x y : Operand} {k k' : IntKind} {p q : Int} (ho : o.op = .binOp .shr T x y T') (hx : ev E x = some (.val (.int k p))) (hy : ev E y = some (.val (.int k' q))) (hq : q = (j : Int)) (hm : (2 : Int) ^ (min j k.bits) = m) :
  OpW P N o E H (Is (.val (.int k (p / m)))) := O.shr ho hx hy (by omega) (by
   subst hq; subst hm
   rw [Int.toNat_natCast, Int.fdiv_eq_ediv_of_nonneg]
   exact Int.le_of_lt (Int.pow_pos (by decide)))
theorem O.shlK (j : Nat) (m : Int) {T T' : Nat} {x y : Operand} {k k' : IntKind} {p q c : Int} (ho : o.op = .binOp .shl T x y T') (hx : ev E x = some (.val (.int k p))) (hy : ev E y = some (.val (.int k' q))) (hq : q = (j : Int)) (hm : (2 : Int) ^ (min j k.bits) = m) (hc : k.wrap (p * m) = c) :
  OpW P N o E H (Is (.val (.int k c))) := O.shl ho hx hy (by omega) (by
   subst hq; subst hm
   rw [Int.toNat_natCast]; exact hc)
end
end Go.Proofs.YtoonnnifelnaiaaGreatDoor.A

namespace Go.Proofs.YtoonnnifelnaiaaGreatDoor.A
open Go.RowKit L
set_option linter.unusedVariables false
set_option maxRecDepth 20000
set_option linter.unusedSimpArgs false
section
variable {Γ : Cx} {P : Program} {Q : Exit → Act → World → Prop} {E : Env} {H : List HE}
/-- Where the two ways meet. -/
def Mid (Γ : Cx) (Q : Exit → Act → World → Prop) (φ : Prop) (E1 : Env) (H1 : List HE) : Exit → Act → World → Prop := Exit.then (fun a W => φ ∧ ∃ R, RelS Γ R H1 W ∧ RelA Γ.N R W E1 a) Q
theorem wp_mid {c : Code} {a : Act} {W : World} {φ : Prop} {E1 : Env} {H1 : List HE} (h : c.wp P (Mid Γ Q φ E1 H1) a W) (k : φ → AQ Γ Q .normal E1 H1) : c.wp P Q a W := by
 refine wp_mono h ?_
 intro x a W hx
 cases x with
 | normal => obtain ⟨hφ, R, h1, h2⟩ := hx; exact k hφ R a W h1 h2
 | _ => exact hx
theorem AW.joinK {t : Nat} {b : Bool} {x y : Code} (φ : Prop) (K E1 : Env) (H1 : List HE) (ht : look E t = some (.val (.bool b))) (hK : ∀ p ∈ K, look E p.1 = some p.2) (h1 : b = true → AW Γ P (Mid Γ Q φ (E1 ++ K) H1) x E H) (h2 : b = false → AW Γ P (Mid Γ Q φ (E1 ++ K) H1) y E H) (k : φ → AQ Γ Q .normal (E1 ++ K) H1) :
  AW Γ P Q (.cond (.tmp t) x y) E H := AW.cond b ht (fun hb R a W hs ha => wp_mid (h1 hb R a W hs ha) k) (fun hb R a W hs ha => wp_mid (h2 hb R a W hs ha) k)
theorem AQ.midK {φ : Prop} {K E1 : Env} {H1 : List HE} (hφ : φ) (hK : ∀ p ∈ K, look E p.1 = some p.2) (hE : ∀ p ∈ E1, look E p.1 = some p.2) (hH : ∃ H2, H2.Sublist H ∧ H1.Perm H2) : AQ Γ (Mid Γ Q φ (E1 ++ K) H1) .normal E H := fun R a W hs ha => by
 obtain ⟨H2, h1, h2⟩ := hH
 have hmem : ∀ {E : Env} {t : Nat} {v : AV}, look E t = some v → (t, v) ∈ E := by
  intro E
  induction E with
  | nil => intro t v h; cases h
  | cons p r ih =>
   intro t v h
   unfold look at h
   cases hb : Nat.beq p.1 t with
   | true => rw [hb] at h; simp at h; subst h; have := Nat.eq_of_beq_eq_true hb; subst this; exact List.mem_cons_self ..
   | false => rw [hb] at h; exact List.mem_cons_of_mem _ (ih h)
 exact ⟨hφ, R, (hs.sub h1).perm h2, ha.defers, ha.size, fun t v ht => ha.slots t v (env_app hE hK _ (hmem ht))⟩
/-- Where the two ways meet, told by a relation. -/
def MidI (Γ : Cx) (Q : Exit → Act → World → Prop) (K : Env) (I : Env → List HE → Prop) : Exit → Act → World → Prop := Exit.then (fun a W => ∃ E1 H1 R, I E1 H1 ∧ RelS Γ R H1 W ∧ RelA Γ.N R W (E1 ++ K) a) Q
theorem wp_midI {c : Code} {a : Act} {W : World} {K : Env} {I : Env → List HE → Prop} (h : c.wp P (MidI Γ Q K I) a W) (k : ∀ E1 H1, I E1 H1 → AQ Γ Q .normal (E1 ++ K) H1) : c.wp P Q a W := by
 refine wp_mono h ?_
 intro x a W hx
 cases x with
 | normal => obtain ⟨E1, H1, R, hI, h1, h2⟩ := hx; exact k E1 H1 hI R a W h1 h2
 | _ => exact hx
theorem AW.joinI {t : Nat} {b : Bool} {x y : Code} (K : Env) (I : Env → List HE → Prop) (ht : look E t = some (.val (.bool b))) (hK : ∀ p ∈ K, look E p.1 = some p.2) (h1 : b = true → AW Γ P (MidI Γ Q K I) x E H) (h2 : b = false → AW Γ P (MidI Γ Q K I) y E H) (k : ∀ E1 H1, I E1 H1 → AQ Γ Q .normal (E1 ++ K) H1) :
  AW Γ P Q (.cond (.tmp t) x y) E H := AW.cond b ht (fun hb R a W hs ha => wp_midI (h1 hb R a W hs ha) k) (fun hb R a W hs ha => wp_midI (h2 hb R a W hs ha) k)
theorem AQ.midI {K : Env} {I : Env → List HE → Prop} (E1 : Env) (H1 : List HE) (hI : I E1 H1) (hK : ∀ p ∈ K, look E p.1 = some p.2) (hE : ∀ p ∈ E1, look E p.1 = some p.2) (hH : ∃ H2, H2.Sublist H ∧ H1.Perm H2) : AQ Γ (MidI Γ Q K I) .normal E H := fun R a W hs ha => by
 obtain ⟨H2, h1, h2⟩ := hH
 have hmem : ∀ {E : Env} {t : Nat} {v : AV}, look E t = some v → (t, v) ∈ E := by
  intro E
  induction E with
  | nil => intro t v h; cases h
  | cons p r ih =>
   intro t v h
   unfold look at h
   cases hb : Nat.beq p.1 t with
   | true => rw [hb] at h; simp at h; subst h; have := Nat.eq_of_beq_eq_true hb; subst this; exact List.mem_cons_self ..
   | false => rw [hb] at h; exact List.mem_cons_of_mem _ (ih h)
 exact ⟨E1, H1, R, hI, (hs.sub h1).perm h2, ha.defers, ha.size, fun t v ht => ha.slots t v (env_app hE hK _ (hmem ht))⟩

/-- Results out of a box, in other words: nil reads as nothing. -/
theorem FnQ.coe {Γ : Cx} {P : Program} {fn : Func} {Post : AV → List HE → Prop} {E : Env} {H : List HE} {r r' : AV} {H' : List HE} (h : AQ Γ (FnQ Γ P fn (fun q K => q = r ∧ K = H')) .ret E H) (hc : Coe r r') (hp : Post r' H') : AQ Γ (FnQ Γ P fn Post) .ret E H := fun R a W hs ha => by
 have := h R a W hs ha
 unfold FnQ at this ⊢
 obtain ⟨hd, v, hv, u, q, K, R', he, ⟨rfl, rfl⟩, h1, h2⟩ := this
 exact ⟨hd, v, hv, u, _, _, R', he, hp, h1, hc R' W u h2⟩
theorem Coe.tup {x y : List AV} (h : CoeL x y) : Coe (.tup x) (.tup y) := fun R W u hu => by
 obtain ⟨us, rfl, h1⟩ := hu.tup_inv
 exact (h R W us h1).toTup
end
end Go.Proofs.YtoonnnifelnaiaaGreatDoor.A

namespace Go.Proofs.YtoonnnifelnaiaaGreatDoor.Dk
open Go.RowKit L A
set_option linter.unusedVariables false
set_option maxRecDepth 20000
set_option linter.unusedSimpArgs false
attribute [local irreducible] AW AQ AO

theorem mod_fn (v n : Int) (h1 : 0 < n) (h2 : n ≤ 4611686018427387904) : Sp Tryz.prog 11 [.val (.int .i64 v), .val (.int .i64 n)] [] (Is (.val (.int .i64 (v % n)))) := by
 have hf := tmod_fix2 v n h1
 have hlt : v.tmod n < n := Int.tmod_lt_of_pos v h1
 have hge : -n < v.tmod n := by
  rcases Int.le_total 0 v with hv | hv
  ·have := Int.tmod_nonneg n hv; omega
  ·have := Int.lt_tmod_of_pos v h1; omega
 refine Sp.enter Tryz.func11 rfl _ Tryz.ntmps11 rfl (fun w0 R0 => ?_)
 refine AW.seq ?_
 refine AW.region ?_
 refine AO.op (O.assign rfl rfl) rfl rfl rfl ?_
 refine AO.nil ?_
 refine AQ.thenN ?_
 refine AW.seq ?_
 refine AW.region ?_
 refine AO.op (O.move rfl rfl) rfl rfl rfl ?_
 refine AO.op (O.move rfl rfl) rfl rfl rfl ?_
 refine AO.op (O.rem rfl rfl rfl (by omega) rfl) rfl rfl rfl ?_
 refine AO.op (O.assign rfl rfl) rfl rfl rfl ?_
 refine AO.nil ?_
 refine AQ.thenN ?_
 refine AW.seq ?_
 refine AW.seq ?_
 refine AW.region ?_
 refine AO.op (O.move rfl rfl) rfl rfl rfl ?_
 refine AO.op (O.lss rfl rfl rfl (by first | exact bTrue (by omega) | exact bFalse (by omega) | assumption | rfl)) rfl rfl rfl ?_
 refine AO.nil ?_
 refine AQ.thenN ?_
 refine AW.split rfl (fun h => ?_) (fun h => ?_)
 ·skip
  have h : v.tmod n < 0 := of_decide_eq_true h
  rw [if_pos h] at hf
  refine AW.region ?_
  refine AO.op (O.move rfl rfl) rfl rfl rfl ?_
  refine AO.op (O.move rfl rfl) rfl rfl rfl ?_
  refine AO.op (O.add rfl rfl rfl (by first | exact wI64 (by omega) | rfl)) rfl rfl rfl ?_
  refine AO.op (O.assign rfl rfl) rfl rfl rfl ?_
  refine AO.nil ?_
  refine AQ.thenN ?_
  refine AW.seq ?_
  refine AW.region ?_
  refine AO.op (O.move rfl rfl) rfl rfl rfl ?_
  refine AO.op (O.assign rfl rfl) rfl rfl rfl ?_
  refine AO.nil ?_
  refine AQ.thenN ?_
  refine AW.ret ?_
  refine AQ.ret1 rfl rfl ⟨_, List.nil_sublist _, .nil⟩ (⟨by rw [hf], rfl⟩)
 ·skip
  have h : ¬ v.tmod n < 0 := of_decide_eq_false h
  rw [if_neg h] at hf
  refine AW.skip ?_
  refine AQ.thenN ?_
  refine AW.seq ?_
  refine AW.region ?_
  refine AO.op (O.move rfl rfl) rfl rfl rfl ?_
  refine AO.op (O.assign rfl rfl) rfl rfl rfl ?_
  refine AO.nil ?_
  refine AQ.thenN ?_
  refine AW.ret ?_
  refine AQ.ret1 rfl rfl ⟨_, List.nil_sublist _, .nil⟩ (⟨by rw [hf], rfl⟩)

/-- A deck: its numbers, and how many are taken. -/
abbrev deck (b : Nat) (l : List Int) (k : Nat) : HE := .blk b 105 2 [roI l, .val (.int .i64 (k : Int))]
abbrev ptr (b : Nat) : AV := .val (.pointer (some ⟨b, 0, none⟩))
def nxt (l : List Int) (k : Nat) (n : Int) : Int := if k < l.length then l.getD k 0 % n else 0
def adv (l : List Int) (k : Nat) : Nat := if k < l.length then k + 1 else k
theorem nxt_in (l : List Int) (k : Nat) {n : Int} (h : 0 < n) : 0 ≤ nxt l k n ∧ nxt l k n < n := by
 unfold nxt
 split
 ·exact ⟨Int.emod_nonneg _ (by omega), Int.emod_lt_of_pos _ h⟩
 ·omega
theorem adv_le {l : List Int} {k m : Nat} (h : k ≤ m) (hm : l.length ≤ m) : adv l k ≤ m := by unfold adv; split <;> omega
theorem adv_le' {l : List Int} {k : Nat} (h : k ≤ l.length) : adv l k ≤ l.length := adv_le h (Nat.le_refl _)

theorem new_fn (l : List Int) : Sp Tryz.prog 9 [roI l] [] (NewBlk (fun b => .val (.pointer (some ⟨b, 0, none⟩))) 105 2 [roI l, .val (.int .i64 0)]) := by
 refine Sp.enter Tryz.func9 rfl _ Tryz.ntmps9 rfl (fun w0 R0 => ?_)
 refine AW.seq ?_
 refine AW.region ?_
 refine AO.op (O.assign rfl rfl) rfl rfl rfl ?_
 refine AO.nil ?_
 refine AQ.thenN ?_
 refine AW.seq ?_
 refine AW.region ?_
 refine AO.op (O.move rfl rfl) rfl rfl rfl ?_
 refine AO.op (O.build rfl rfl rfl (by rfl)) rfl rfl rfl ?_
 refine AO.opB (O.box rfl rfl rfl rfl rfl) rfl rfl rfl ?_
 intro B
 refine AO.op (O.assign rfl rfl) rfl rfl rfl ?_
 refine AO.nil ?_
 refine AQ.thenN ?_
 refine AW.ret ?_
 refine AQ.ret1 rfl rfl ⟨_, by repeat (first | exact List.Sublist.slnil | refine List.Sublist.cons_cons _ ?_ | refine List.Sublist.cons _ ?_), List.Perm.refl _⟩ (⟨B, rfl, rfl⟩)

theorem roI_at {l : List Int} {k : Nat} (h : k < l.length) {j : Nat} (hj : j = k) : (intsA .i64 l)[j]? = some (.val (.int .i64 (l.getD k 0))) := by
 subst hj; simp [intsA, h]
set_option maxHeartbeats 1000000 in
set_option maxRecDepth 20000 in
theorem next_fn (b : Nat) (l : List Int) (k : Nat) (n : Int) (hl : l.length ≤ maxLen) (hk : k ≤ l.length) (hn1 : 0 < n) (hn2 : n ≤ 4611686018427387904) :
  Sp Tryz.prog 13 [ptr b, .val (.int .i64 n)] [deck b l k] (IsM (.val (.int .i64 (nxt l k n))) (deck b l (adv l k))) := by
 unfold maxLen at hl
 refine Sp.enter Tryz.func13 rfl _ Tryz.ntmps13 rfl (fun w0 R0 => ?_)
 refine AW.seq ?_
 refine AW.region ?_
 refine AO.op (O.assign rfl rfl) rfl rfl rfl ?_
 refine AO.nil ?_
 refine AQ.thenN ?_
 refine AW.seq ?_
 refine AW.seq ?_
 refine AW.regionD 10 (by kernel_rfl) (by kernel_rfl) ?_
 simp only [List.take_succ_cons, List.take_zero, List.drop_succ_cons, List.drop_zero]
 refine FA.op (O.move rfl rfl) rfl rfl rfl rfl ?_
 first | (refine FA.op (O.nilCheck rfl rfl) rfl rfl rfl rfl ?_) | (refine FA.op (O.nilCheckR rfl rfl) rfl rfl rfl rfl ?_)
 first | (refine FA.op (O.fieldAddrR rfl rfl) rfl rfl rfl rfl ?_) | (refine FA.op (O.fieldAddr rfl rfl) rfl rfl rfl rfl ?_)
 first | (refine FA.op (O.loadR rfl rfl (by first | rfl | exact roI_at (by assumption) (by omega))) rfl rfl rfl rfl ?_) | (refine FA.op (O.load rfl rfl (by repeat (first | exact List.Mem.head _ | refine List.Mem.tail _ ?_)) (by first | rfl | exact roI_at (by assumption) (by omega))) rfl rfl rfl rfl ?_)
 refine FA.op (O.move rfl rfl) rfl rfl rfl rfl ?_
 first | (refine FA.op (O.nilCheck rfl rfl) rfl rfl rfl rfl ?_) | (refine FA.op (O.nilCheckR rfl rfl) rfl rfl rfl rfl ?_)
 first | (refine FA.op (O.fieldAddrR rfl rfl) rfl rfl rfl rfl ?_) | (refine FA.op (O.fieldAddr rfl rfl) rfl rfl rfl rfl ?_)
 first | (refine FA.op (O.loadR rfl rfl (by first | rfl | exact roI_at (by assumption) (by omega))) rfl rfl rfl rfl ?_) | (refine FA.op (O.load rfl rfl (by repeat (first | exact List.Mem.head _ | refine List.Mem.tail _ ?_)) (by first | rfl | exact roI_at (by assumption) (by omega))) rfl rfl rfl rfl ?_)
 first | (refine FA.op (O.lenR rfl rfl) rfl rfl rfl rfl ?_) | (refine FA.op (O.lenV rfl rfl) rfl rfl rfl rfl ?_) | (refine FA.op (O.lenRow rfl rfl (by repeat (first | exact List.Mem.head _ | refine List.Mem.tail _ ?_))) rfl rfl rfl rfl ?_) | (refine FA.op (O.lenS rfl rfl) rfl rfl rfl rfl ?_)
 refine FA.op (O.geq rfl rfl rfl (by first | exact bTrue (by omega) | exact bFalse (by omega) | assumption | rfl)) rfl rfl rfl rfl ?_
 refine FA.nil ?_
 simp only [chosen, List.nil_append, List.cons_append, List.append_nil]
 refine AO.nil ?_
 refine AQ.thenN ?_
 refine AW.split rfl (fun h => ?_) (fun h => ?_)
 ·skip
  have h : ¬ k < l.length := by have := of_decide_eq_true h; omega
  refine AW.seq ?_
  refine AW.region ?_
  refine AO.op (O.assign rfl rfl) rfl rfl rfl ?_
  refine AO.nil ?_
  refine AQ.thenN ?_
  refine AW.ret ?_
  refine AQ.thenR ?_
  have e1 : nxt l k n = 0 := by simp only [nxt, if_neg h]
  have e2 : adv l k = k := by simp only [adv, if_neg h]
  refine AQ.ret1 rfl rfl ⟨_, by repeat (first | exact List.Sublist.slnil | refine List.Sublist.cons_cons _ ?_ | refine List.Sublist.cons _ ?_), List.Perm.refl _⟩ (⟨congrArg (fun z => AV.val (.int .i64 z)) e1.symm, congrArg (fun z => [deck b l z]) e2.symm⟩)
 ·skip
  have h : k < l.length := by have := of_decide_eq_false h; omega
  refine AW.skip ?_
  refine AQ.thenN ?_
  refine AW.seq ?_
  refine AW.region ?_
  refine AO.op (O.move rfl rfl) rfl rfl rfl ?_
  first | (refine AO.op (O.nilCheck rfl rfl) rfl rfl rfl ?_) | (refine AO.op (O.nilCheckR rfl rfl) rfl rfl rfl ?_)
  first | (refine AO.op (O.fieldAddrR rfl rfl) rfl rfl rfl ?_) | (refine AO.op (O.fieldAddr rfl rfl) rfl rfl rfl ?_)
  first | (refine AO.op (O.loadR rfl rfl (by first | rfl | exact roI_at (by assumption) (by omega))) rfl rfl rfl ?_) | (refine AO.op (O.load rfl rfl (by repeat (first | exact List.Mem.head _ | refine List.Mem.tail _ ?_)) (by first | rfl | exact roI_at (by assumption) (by omega))) rfl rfl rfl ?_)
  refine AO.op (O.add rfl rfl rfl (by first | exact wI64 (by omega) | rfl)) rfl rfl rfl ?_
  first | (refine AO.op (O.nilCheck rfl rfl) rfl rfl rfl ?_) | (refine AO.op (O.nilCheckR rfl rfl) rfl rfl rfl ?_)
  first | (refine AO.op (O.fieldAddrR rfl rfl) rfl rfl rfl ?_) | (refine AO.op (O.fieldAddr rfl rfl) rfl rfl rfl ?_)
  first | (refine AO.store (i := 0) rfl rfl rfl rfl rfl rfl (by first | rfl | assumption | (simp [AV.cells, AV.one, *]; done) | (simp [AV.cells, AV.one, roB, roI, roO, show ∀ k z, (Value.int k z).oneCell' = true from fun _ _ => rfl, show ∀ k, (Value.bool k).oneCell' = true from fun _ => rfl, *]; done) | simp [AV.cells, AV.one, Value.oneCell', *]) (by rfl) (by rfl) (by first | (dsimp only [List.set, List.append, List.cons_append, List.nil_append, splice, ofConst, AV.cells, List.map, List.map_cons, List.map_nil, List.take, List.drop, Nat.zero_add, Nat.add_zero, Nat.reduceAdd, Nat.reduceMul, Nat.zero_mul, Value.cells, List.toList_toArray, zerosA, List.replicate, List.flatten, List.append_nil]; rfl) | (dsimp only [List.set, List.append, List.cons_append, List.nil_append, splice, ofConst, AV.cells, List.map, List.map_cons, List.map_nil, List.take, List.drop, Nat.zero_add, Nat.add_zero, Nat.reduceAdd, Nat.reduceMul, Nat.zero_mul, Value.cells, List.toList_toArray, zerosA, List.replicate, List.flatten, List.append_nil]; done) | rfl) (by first | (dsimp only [List.set, List.append, List.cons_append, List.nil_append, splice, ofConst, AV.cells, List.map, List.map_cons, List.map_nil, List.take, List.drop, Nat.zero_add, Nat.add_zero, Nat.reduceAdd, Nat.reduceMul, Nat.zero_mul, Value.cells, List.toList_toArray, zerosA, List.replicate, List.flatten, List.append_nil]; rfl) | (dsimp only [List.set, List.append, List.cons_append, List.nil_append, splice, ofConst, AV.cells, List.map, List.map_cons, List.map_nil, List.take, List.drop, Nat.zero_add, Nat.add_zero, Nat.reduceAdd, Nat.reduceMul, Nat.zero_mul, Value.cells, List.toList_toArray, zerosA, List.replicate, List.flatten, List.append_nil]; done) | rfl) ?_) | (refine AO.store (i := 1) rfl rfl rfl rfl rfl rfl (by first | rfl | assumption | (simp [AV.cells, AV.one, *]; done) | (simp [AV.cells, AV.one, roB, roI, roO, show ∀ k z, (Value.int k z).oneCell' = true from fun _ _ => rfl, show ∀ k, (Value.bool k).oneCell' = true from fun _ => rfl, *]; done) | simp [AV.cells, AV.one, Value.oneCell', *]) (by rfl) (by rfl) (by first | (dsimp only [List.set, List.append, List.cons_append, List.nil_append, splice, ofConst, AV.cells, List.map, List.map_cons, List.map_nil, List.take, List.drop, Nat.zero_add, Nat.add_zero, Nat.reduceAdd, Nat.reduceMul, Nat.zero_mul, Value.cells, List.toList_toArray, zerosA, List.replicate, List.flatten, List.append_nil]; rfl) | (dsimp only [List.set, List.append, List.cons_append, List.nil_append, splice, ofConst, AV.cells, List.map, List.map_cons, List.map_nil, List.take, List.drop, Nat.zero_add, Nat.add_zero, Nat.reduceAdd, Nat.reduceMul, Nat.zero_mul, Value.cells, List.toList_toArray, zerosA, List.replicate, List.flatten, List.append_nil]; done) | rfl) (by first | (dsimp only [List.set, List.append, List.cons_append, List.nil_append, splice, ofConst, AV.cells, List.map, List.map_cons, List.map_nil, List.take, List.drop, Nat.zero_add, Nat.add_zero, Nat.reduceAdd, Nat.reduceMul, Nat.zero_mul, Value.cells, List.toList_toArray, zerosA, List.replicate, List.flatten, List.append_nil]; rfl) | (dsimp only [List.set, List.append, List.cons_append, List.nil_append, splice, ofConst, AV.cells, List.map, List.map_cons, List.map_nil, List.take, List.drop, Nat.zero_add, Nat.add_zero, Nat.reduceAdd, Nat.reduceMul, Nat.zero_mul, Value.cells, List.toList_toArray, zerosA, List.replicate, List.flatten, List.append_nil]; done) | rfl) ?_) | (refine AO.store (i := 2) rfl rfl rfl rfl rfl rfl (by first | rfl | assumption | (simp [AV.cells, AV.one, *]; done) | (simp [AV.cells, AV.one, roB, roI, roO, show ∀ k z, (Value.int k z).oneCell' = true from fun _ _ => rfl, show ∀ k, (Value.bool k).oneCell' = true from fun _ => rfl, *]; done) | simp [AV.cells, AV.one, Value.oneCell', *]) (by rfl) (by rfl) (by first | (dsimp only [List.set, List.append, List.cons_append, List.nil_append, splice, ofConst, AV.cells, List.map, List.map_cons, List.map_nil, List.take, List.drop, Nat.zero_add, Nat.add_zero, Nat.reduceAdd, Nat.reduceMul, Nat.zero_mul, Value.cells, List.toList_toArray, zerosA, List.replicate, List.flatten, List.append_nil]; rfl) | (dsimp only [List.set, List.append, List.cons_append, List.nil_append, splice, ofConst, AV.cells, List.map, List.map_cons, List.map_nil, List.take, List.drop, Nat.zero_add, Nat.add_zero, Nat.reduceAdd, Nat.reduceMul, Nat.zero_mul, Value.cells, List.toList_toArray, zerosA, List.replicate, List.flatten, List.append_nil]; done) | rfl) (by first | (dsimp only [List.set, List.append, List.cons_append, List.nil_append, splice, ofConst, AV.cells, List.map, List.map_cons, List.map_nil, List.take, List.drop, Nat.zero_add, Nat.add_zero, Nat.reduceAdd, Nat.reduceMul, Nat.zero_mul, Value.cells, List.toList_toArray, zerosA, List.replicate, List.flatten, List.append_nil]; rfl) | (dsimp only [List.set, List.append, List.cons_append, List.nil_append, splice, ofConst, AV.cells, List.map, List.map_cons, List.map_nil, List.take, List.drop, Nat.zero_add, Nat.add_zero, Nat.reduceAdd, Nat.reduceMul, Nat.zero_mul, Value.cells, List.toList_toArray, zerosA, List.replicate, List.flatten, List.append_nil]; done) | rfl) ?_) | (refine AO.store (i := 3) rfl rfl rfl rfl rfl rfl (by first | rfl | assumption | (simp [AV.cells, AV.one, *]; done) | (simp [AV.cells, AV.one, roB, roI, roO, show ∀ k z, (Value.int k z).oneCell' = true from fun _ _ => rfl, show ∀ k, (Value.bool k).oneCell' = true from fun _ => rfl, *]; done) | simp [AV.cells, AV.one, Value.oneCell', *]) (by rfl) (by rfl) (by first | (dsimp only [List.set, List.append, List.cons_append, List.nil_append, splice, ofConst, AV.cells, List.map, List.map_cons, List.map_nil, List.take, List.drop, Nat.zero_add, Nat.add_zero, Nat.reduceAdd, Nat.reduceMul, Nat.zero_mul, Value.cells, List.toList_toArray, zerosA, List.replicate, List.flatten, List.append_nil]; rfl) | (dsimp only [List.set, List.append, List.cons_append, List.nil_append, splice, ofConst, AV.cells, List.map, List.map_cons, List.map_nil, List.take, List.drop, Nat.zero_add, Nat.add_zero, Nat.reduceAdd, Nat.reduceMul, Nat.zero_mul, Value.cells, List.toList_toArray, zerosA, List.replicate, List.flatten, List.append_nil]; done) | rfl) (by first | (dsimp only [List.set, List.append, List.cons_append, List.nil_append, splice, ofConst, AV.cells, List.map, List.map_cons, List.map_nil, List.take, List.drop, Nat.zero_add, Nat.add_zero, Nat.reduceAdd, Nat.reduceMul, Nat.zero_mul, Value.cells, List.toList_toArray, zerosA, List.replicate, List.flatten, List.append_nil]; rfl) | (dsimp only [List.set, List.append, List.cons_append, List.nil_append, splice, ofConst, AV.cells, List.map, List.map_cons, List.map_nil, List.take, List.drop, Nat.zero_add, Nat.add_zero, Nat.reduceAdd, Nat.reduceMul, Nat.zero_mul, Value.cells, List.toList_toArray, zerosA, List.replicate, List.flatten, List.append_nil]; done) | rfl) ?_) | (refine AO.store (i := 4) rfl rfl rfl rfl rfl rfl (by first | rfl | assumption | (simp [AV.cells, AV.one, *]; done) | (simp [AV.cells, AV.one, roB, roI, roO, show ∀ k z, (Value.int k z).oneCell' = true from fun _ _ => rfl, show ∀ k, (Value.bool k).oneCell' = true from fun _ => rfl, *]; done) | simp [AV.cells, AV.one, Value.oneCell', *]) (by rfl) (by rfl) (by first | (dsimp only [List.set, List.append, List.cons_append, List.nil_append, splice, ofConst, AV.cells, List.map, List.map_cons, List.map_nil, List.take, List.drop, Nat.zero_add, Nat.add_zero, Nat.reduceAdd, Nat.reduceMul, Nat.zero_mul, Value.cells, List.toList_toArray, zerosA, List.replicate, List.flatten, List.append_nil]; rfl) | (dsimp only [List.set, List.append, List.cons_append, List.nil_append, splice, ofConst, AV.cells, List.map, List.map_cons, List.map_nil, List.take, List.drop, Nat.zero_add, Nat.add_zero, Nat.reduceAdd, Nat.reduceMul, Nat.zero_mul, Value.cells, List.toList_toArray, zerosA, List.replicate, List.flatten, List.append_nil]; done) | rfl) (by first | (dsimp only [List.set, List.append, List.cons_append, List.nil_append, splice, ofConst, AV.cells, List.map, List.map_cons, List.map_nil, List.take, List.drop, Nat.zero_add, Nat.add_zero, Nat.reduceAdd, Nat.reduceMul, Nat.zero_mul, Value.cells, List.toList_toArray, zerosA, List.replicate, List.flatten, List.append_nil]; rfl) | (dsimp only [List.set, List.append, List.cons_append, List.nil_append, splice, ofConst, AV.cells, List.map, List.map_cons, List.map_nil, List.take, List.drop, Nat.zero_add, Nat.add_zero, Nat.reduceAdd, Nat.reduceMul, Nat.zero_mul, Value.cells, List.toList_toArray, zerosA, List.replicate, List.flatten, List.append_nil]; done) | rfl) ?_) | (refine AO.store (i := 5) rfl rfl rfl rfl rfl rfl (by first | rfl | assumption | (simp [AV.cells, AV.one, *]; done) | (simp [AV.cells, AV.one, roB, roI, roO, show ∀ k z, (Value.int k z).oneCell' = true from fun _ _ => rfl, show ∀ k, (Value.bool k).oneCell' = true from fun _ => rfl, *]; done) | simp [AV.cells, AV.one, Value.oneCell', *]) (by rfl) (by rfl) (by first | (dsimp only [List.set, List.append, List.cons_append, List.nil_append, splice, ofConst, AV.cells, List.map, List.map_cons, List.map_nil, List.take, List.drop, Nat.zero_add, Nat.add_zero, Nat.reduceAdd, Nat.reduceMul, Nat.zero_mul, Value.cells, List.toList_toArray, zerosA, List.replicate, List.flatten, List.append_nil]; rfl) | (dsimp only [List.set, List.append, List.cons_append, List.nil_append, splice, ofConst, AV.cells, List.map, List.map_cons, List.map_nil, List.take, List.drop, Nat.zero_add, Nat.add_zero, Nat.reduceAdd, Nat.reduceMul, Nat.zero_mul, Value.cells, List.toList_toArray, zerosA, List.replicate, List.flatten, List.append_nil]; done) | rfl) (by first | (dsimp only [List.set, List.append, List.cons_append, List.nil_append, splice, ofConst, AV.cells, List.map, List.map_cons, List.map_nil, List.take, List.drop, Nat.zero_add, Nat.add_zero, Nat.reduceAdd, Nat.reduceMul, Nat.zero_mul, Value.cells, List.toList_toArray, zerosA, List.replicate, List.flatten, List.append_nil]; rfl) | (dsimp only [List.set, List.append, List.cons_append, List.nil_append, splice, ofConst, AV.cells, List.map, List.map_cons, List.map_nil, List.take, List.drop, Nat.zero_add, Nat.add_zero, Nat.reduceAdd, Nat.reduceMul, Nat.zero_mul, Value.cells, List.toList_toArray, zerosA, List.replicate, List.flatten, List.append_nil]; done) | rfl) ?_) | (refine AO.store (i := 6) rfl rfl rfl rfl rfl rfl (by first | rfl | assumption | (simp [AV.cells, AV.one, *]; done) | (simp [AV.cells, AV.one, roB, roI, roO, show ∀ k z, (Value.int k z).oneCell' = true from fun _ _ => rfl, show ∀ k, (Value.bool k).oneCell' = true from fun _ => rfl, *]; done) | simp [AV.cells, AV.one, Value.oneCell', *]) (by rfl) (by rfl) (by first | (dsimp only [List.set, List.append, List.cons_append, List.nil_append, splice, ofConst, AV.cells, List.map, List.map_cons, List.map_nil, List.take, List.drop, Nat.zero_add, Nat.add_zero, Nat.reduceAdd, Nat.reduceMul, Nat.zero_mul, Value.cells, List.toList_toArray, zerosA, List.replicate, List.flatten, List.append_nil]; rfl) | (dsimp only [List.set, List.append, List.cons_append, List.nil_append, splice, ofConst, AV.cells, List.map, List.map_cons, List.map_nil, List.take, List.drop, Nat.zero_add, Nat.add_zero, Nat.reduceAdd, Nat.reduceMul, Nat.zero_mul, Value.cells, List.toList_toArray, zerosA, List.replicate, List.flatten, List.append_nil]; done) | rfl) (by first | (dsimp only [List.set, List.append, List.cons_append, List.nil_append, splice, ofConst, AV.cells, List.map, List.map_cons, List.map_nil, List.take, List.drop, Nat.zero_add, Nat.add_zero, Nat.reduceAdd, Nat.reduceMul, Nat.zero_mul, Value.cells, List.toList_toArray, zerosA, List.replicate, List.flatten, List.append_nil]; rfl) | (dsimp only [List.set, List.append, List.cons_append, List.nil_append, splice, ofConst, AV.cells, List.map, List.map_cons, List.map_nil, List.take, List.drop, Nat.zero_add, Nat.add_zero, Nat.reduceAdd, Nat.reduceMul, Nat.zero_mul, Value.cells, List.toList_toArray, zerosA, List.replicate, List.flatten, List.append_nil]; done) | rfl) ?_) | (refine AO.store (i := 7) rfl rfl rfl rfl rfl rfl (by first | rfl | assumption | (simp [AV.cells, AV.one, *]; done) | (simp [AV.cells, AV.one, roB, roI, roO, show ∀ k z, (Value.int k z).oneCell' = true from fun _ _ => rfl, show ∀ k, (Value.bool k).oneCell' = true from fun _ => rfl, *]; done) | simp [AV.cells, AV.one, Value.oneCell', *]) (by rfl) (by rfl) (by first | (dsimp only [List.set, List.append, List.cons_append, List.nil_append, splice, ofConst, AV.cells, List.map, List.map_cons, List.map_nil, List.take, List.drop, Nat.zero_add, Nat.add_zero, Nat.reduceAdd, Nat.reduceMul, Nat.zero_mul, Value.cells, List.toList_toArray, zerosA, List.replicate, List.flatten, List.append_nil]; rfl) | (dsimp only [List.set, List.append, List.cons_append, List.nil_append, splice, ofConst, AV.cells, List.map, List.map_cons, List.map_nil, List.take, List.drop, Nat.zero_add, Nat.add_zero, Nat.reduceAdd, Nat.reduceMul, Nat.zero_mul, Value.cells, List.toList_toArray, zerosA, List.replicate, List.flatten, List.append_nil]; done) | rfl) (by first | (dsimp only [List.set, List.append, List.cons_append, List.nil_append, splice, ofConst, AV.cells, List.map, List.map_cons, List.map_nil, List.take, List.drop, Nat.zero_add, Nat.add_zero, Nat.reduceAdd, Nat.reduceMul, Nat.zero_mul, Value.cells, List.toList_toArray, zerosA, List.replicate, List.flatten, List.append_nil]; rfl) | (dsimp only [List.set, List.append, List.cons_append, List.nil_append, splice, ofConst, AV.cells, List.map, List.map_cons, List.map_nil, List.take, List.drop, Nat.zero_add, Nat.add_zero, Nat.reduceAdd, Nat.reduceMul, Nat.zero_mul, Value.cells, List.toList_toArray, zerosA, List.replicate, List.flatten, List.append_nil]; done) | rfl) ?_) | (refine AO.store (i := 8) rfl rfl rfl rfl rfl rfl (by first | rfl | assumption | (simp [AV.cells, AV.one, *]; done) | (simp [AV.cells, AV.one, roB, roI, roO, show ∀ k z, (Value.int k z).oneCell' = true from fun _ _ => rfl, show ∀ k, (Value.bool k).oneCell' = true from fun _ => rfl, *]; done) | simp [AV.cells, AV.one, Value.oneCell', *]) (by rfl) (by rfl) (by first | (dsimp only [List.set, List.append, List.cons_append, List.nil_append, splice, ofConst, AV.cells, List.map, List.map_cons, List.map_nil, List.take, List.drop, Nat.zero_add, Nat.add_zero, Nat.reduceAdd, Nat.reduceMul, Nat.zero_mul, Value.cells, List.toList_toArray, zerosA, List.replicate, List.flatten, List.append_nil]; rfl) | (dsimp only [List.set, List.append, List.cons_append, List.nil_append, splice, ofConst, AV.cells, List.map, List.map_cons, List.map_nil, List.take, List.drop, Nat.zero_add, Nat.add_zero, Nat.reduceAdd, Nat.reduceMul, Nat.zero_mul, Value.cells, List.toList_toArray, zerosA, List.replicate, List.flatten, List.append_nil]; done) | rfl) (by first | (dsimp only [List.set, List.append, List.cons_append, List.nil_append, splice, ofConst, AV.cells, List.map, List.map_cons, List.map_nil, List.take, List.drop, Nat.zero_add, Nat.add_zero, Nat.reduceAdd, Nat.reduceMul, Nat.zero_mul, Value.cells, List.toList_toArray, zerosA, List.replicate, List.flatten, List.append_nil]; rfl) | (dsimp only [List.set, List.append, List.cons_append, List.nil_append, splice, ofConst, AV.cells, List.map, List.map_cons, List.map_nil, List.take, List.drop, Nat.zero_add, Nat.add_zero, Nat.reduceAdd, Nat.reduceMul, Nat.zero_mul, Value.cells, List.toList_toArray, zerosA, List.replicate, List.flatten, List.append_nil]; done) | rfl) ?_) | (refine AO.store (i := 9) rfl rfl rfl rfl rfl rfl (by first | rfl | assumption | (simp [AV.cells, AV.one, *]; done) | (simp [AV.cells, AV.one, roB, roI, roO, show ∀ k z, (Value.int k z).oneCell' = true from fun _ _ => rfl, show ∀ k, (Value.bool k).oneCell' = true from fun _ => rfl, *]; done) | simp [AV.cells, AV.one, Value.oneCell', *]) (by rfl) (by rfl) (by first | (dsimp only [List.set, List.append, List.cons_append, List.nil_append, splice, ofConst, AV.cells, List.map, List.map_cons, List.map_nil, List.take, List.drop, Nat.zero_add, Nat.add_zero, Nat.reduceAdd, Nat.reduceMul, Nat.zero_mul, Value.cells, List.toList_toArray, zerosA, List.replicate, List.flatten, List.append_nil]; rfl) | (dsimp only [List.set, List.append, List.cons_append, List.nil_append, splice, ofConst, AV.cells, List.map, List.map_cons, List.map_nil, List.take, List.drop, Nat.zero_add, Nat.add_zero, Nat.reduceAdd, Nat.reduceMul, Nat.zero_mul, Value.cells, List.toList_toArray, zerosA, List.replicate, List.flatten, List.append_nil]; done) | rfl) (by first | (dsimp only [List.set, List.append, List.cons_append, List.nil_append, splice, ofConst, AV.cells, List.map, List.map_cons, List.map_nil, List.take, List.drop, Nat.zero_add, Nat.add_zero, Nat.reduceAdd, Nat.reduceMul, Nat.zero_mul, Value.cells, List.toList_toArray, zerosA, List.replicate, List.flatten, List.append_nil]; rfl) | (dsimp only [List.set, List.append, List.cons_append, List.nil_append, splice, ofConst, AV.cells, List.map, List.map_cons, List.map_nil, List.take, List.drop, Nat.zero_add, Nat.add_zero, Nat.reduceAdd, Nat.reduceMul, Nat.zero_mul, Value.cells, List.toList_toArray, zerosA, List.replicate, List.flatten, List.append_nil]; done) | rfl) ?_)
  refine AO.nil ?_
  refine AQ.thenN ?_
  refine AW.seq ?_
  refine AW.regionD 14 (by kernel_rfl) (by kernel_rfl) ?_
  simp only [List.take_succ_cons, List.take_zero, List.drop_succ_cons, List.drop_zero]
  refine FA.op (O.move rfl rfl) rfl rfl rfl rfl ?_
  first | (refine FA.op (O.nilCheck rfl rfl) rfl rfl rfl rfl ?_) | (refine FA.op (O.nilCheckR rfl rfl) rfl rfl rfl rfl ?_)
  first | (refine FA.op (O.fieldAddrR rfl rfl) rfl rfl rfl rfl ?_) | (refine FA.op (O.fieldAddr rfl rfl) rfl rfl rfl rfl ?_)
  first | (refine FA.op (O.loadR rfl rfl (by first | rfl | exact roI_at (by assumption) (by omega))) rfl rfl rfl rfl ?_) | (refine FA.op (O.load rfl rfl (by repeat (first | exact List.Mem.head _ | refine List.Mem.tail _ ?_)) (by first | rfl | exact roI_at (by assumption) (by omega))) rfl rfl rfl rfl ?_)
  refine FA.op (O.move rfl rfl) rfl rfl rfl rfl ?_
  first | (refine FA.op (O.nilCheck rfl rfl) rfl rfl rfl rfl ?_) | (refine FA.op (O.nilCheckR rfl rfl) rfl rfl rfl rfl ?_)
  first | (refine FA.op (O.fieldAddrR rfl rfl) rfl rfl rfl rfl ?_) | (refine FA.op (O.fieldAddr rfl rfl) rfl rfl rfl rfl ?_)
  first | (refine FA.op (O.loadR rfl rfl (by first | rfl | exact roI_at (by assumption) (by omega))) rfl rfl rfl rfl ?_) | (refine FA.op (O.load rfl rfl (by repeat (first | exact List.Mem.head _ | refine List.Mem.tail _ ?_)) (by first | rfl | exact roI_at (by assumption) (by omega))) rfl rfl rfl rfl ?_)
  refine FA.op (O.sub rfl rfl rfl (by first | exact wI64 (by omega) | rfl)) rfl rfl rfl rfl ?_
  first | (refine FA.op (O.idxR rfl rfl rfl ⟨(by first | omega | (simp only [List.length_take, List.length_drop, List.length_append, List.length_cons, List.length_nil, List.length_set, Nat.zero_add]; omega) | (simp only [cond_true, cond_false, Bool.not_eq_true', Bool.not_eq_false', Bool.and_eq_true, Bool.or_eq_true, Bool.or_eq_false_iff, Bool.and_eq_false_imp, decide_eq_true_eq, decide_eq_false_iff_not, beq_iff_eq, bne_iff_ne, bne_eq_false_iff_eq, ne_eq] at hp; omega)), (by first | omega | (simp only [List.length_take, List.length_drop, List.length_append, List.length_cons, List.length_nil, List.length_set, Nat.zero_add]; omega) | (simp only [cond_true, cond_false, Bool.not_eq_true', Bool.not_eq_false', Bool.and_eq_true, Bool.or_eq_true, Bool.or_eq_false_iff, Bool.and_eq_false_imp, decide_eq_true_eq, decide_eq_false_iff_not, beq_iff_eq, bne_iff_ne, bne_eq_false_iff_eq, ne_eq] at hp; omega))⟩) rfl rfl rfl rfl ?_) | (refine FA.op (O.idxV rfl rfl rfl ⟨(by first | omega | (simp only [List.length_take, List.length_drop, List.length_append, List.length_cons, List.length_nil, List.length_set, Nat.zero_add]; omega) | (simp only [cond_true, cond_false, Bool.not_eq_true', Bool.not_eq_false', Bool.and_eq_true, Bool.or_eq_true, Bool.or_eq_false_iff, Bool.and_eq_false_imp, decide_eq_true_eq, decide_eq_false_iff_not, beq_iff_eq, bne_iff_ne, bne_eq_false_iff_eq, ne_eq] at hp; omega)), (by first | omega | (simp only [List.length_take, List.length_drop, List.length_append, List.length_cons, List.length_nil, List.length_set, Nat.zero_add]; omega) | (simp only [cond_true, cond_false, Bool.not_eq_true', Bool.not_eq_false', Bool.and_eq_true, Bool.or_eq_true, Bool.or_eq_false_iff, Bool.and_eq_false_imp, decide_eq_true_eq, decide_eq_false_iff_not, beq_iff_eq, bne_iff_ne, bne_eq_false_iff_eq, ne_eq] at hp; omega))⟩) rfl rfl rfl rfl ?_)
  first | (refine FA.op (O.loadR rfl rfl (by first | rfl | exact roI_at (by assumption) (by omega))) rfl rfl rfl rfl ?_) | (refine FA.op (O.load rfl rfl (by repeat (first | exact List.Mem.head _ | refine List.Mem.tail _ ?_)) (by first | rfl | exact roI_at (by assumption) (by omega))) rfl rfl rfl rfl ?_)
  refine FA.op (O.move rfl rfl) rfl rfl rfl rfl ?_
  first | (refine FA.op (O.call rfl Tryz.func11 rfl rfl rfl (mod_fn _ _ hn1 hn2)) rfl rfl rfl rfl ?_) | (refine FA.op (O.callC rfl Tryz.func11 rfl rfl rfl (mod_fn _ _ hn1 hn2) (by (repeat (first | exact CoeL.nil | refine CoeL.cons Coe.rfl ?_ | refine CoeL.cons Coe.nil ?_ | refine CoeL.cons Coe.unfull ?_ | refine CoeL.cons (Coe.agg ?_) ?_ | refine CoeL.cons (Coe.tup ?_) ?_ | refine CoeL.cons (Coe.ro ?_) ?_)); first | done | fail)) rfl rfl rfl rfl ?_) | (refine FA.op (O.callL rfl Tryz.func11 rfl rfl rfl (by repeat (first | exact List.Mem.head _ | refine List.Mem.tail _ ?_)) (mod_fn _ _ hn1 hn2) (by (repeat (first | exact LendL.nil | refine LendL.same ?_ | refine LendL.lend ?_)); first | done | fail)) rfl rfl rfl rfl ?_)
  refine FA.op (O.assign rfl rfl) rfl rfl rfl rfl ?_
  refine FA.nil ?_
  simp only [chosen, List.nil_append, List.cons_append, List.append_nil]
  refine AO.nil ?_
  refine AQ.thenN ?_
  refine AW.ret ?_
  have e1 : nxt l k n = l.getD k 0 % n := by simp only [nxt, if_pos h]
  have e2 : adv l k = k + 1 := by simp only [adv, if_pos h]
  refine AQ.ret1 rfl rfl ⟨_, by repeat (first | exact List.Sublist.slnil | refine List.Sublist.cons_cons _ ?_ | refine List.Sublist.cons _ ?_), List.Perm.refl _⟩ (⟨congrArg (fun z => AV.val (.int .i64 z)) e1.symm, congrArg (fun z => [deck b l z]) e2.symm⟩)
end Go.Proofs.YtoonnnifelnaiaaGreatDoor.Dk

namespace Go.Proofs.YtoonnnifelnaiaaGreatDoor.By
open Go.RowKit L A
set_option linter.unusedVariables false
set_option maxRecDepth 20000
set_option linter.unusedSimpArgs false
attribute [local irreducible] AW AQ AO

section
variable {α : Type} {f : α → List AV} {k : Nat}
theorem flat_len (hf : ∀ a, (f a).length = k) : ∀ l : List α, (l.flatMap f).length = l.length * k
 | [] => by simp
 | a :: l => by rw [List.flatMap_cons, List.length_append, hf, flat_len hf l, List.length_cons, Nat.add_mul]; omega
theorem flat_take (hf : ∀ a, (f a).length = k) : ∀ (l : List α) (n : Nat), (l.flatMap f).take (n * k) = (l.take n).flatMap f
 | [], n => by simp
 | a :: l, 0 => by simp
 | a :: l, n + 1 => by
  rw [List.flatMap_cons, List.take_succ_cons, List.flatMap_cons, ← flat_take hf l n, show (n + 1) * k = (f a).length + n * k by rw [hf, Nat.add_mul]; omega, List.take_length_add_append]
theorem flat_drop (hf : ∀ a, (f a).length = k) : ∀ (l : List α) (n : Nat), (l.flatMap f).drop (n * k) = (l.drop n).flatMap f
 | [], n => by simp
 | a :: l, 0 => by simp
 | a :: l, n + 1 => by
  rw [List.flatMap_cons, List.drop_succ_cons, ← flat_drop hf l n, show (n + 1) * k = (f a).length + n * k by rw [hf, Nat.add_mul]; omega, List.drop_length_add_append]
theorem flat_at (hf : ∀ a, (f a).length = k) (d : α) {l : List α} {i : Nat} (h : i < l.length) {j : Nat} (hj : j = i) : ((l.flatMap f).drop (j * k)).take k = f (l.getD i d) := by
 subst hj
 rw [flat_drop hf, List.drop_eq_getElem_cons h, List.flatMap_cons, List.take_left' (hf _)]
 simp [h]
theorem flat_cell (hf : ∀ a, (f a).length = k) (d : α) {l : List α} {i c : Nat} (h : i < l.length) (hc : c < k) {j : Nat} (hj : j = i * k + c) : (l.flatMap f)[j]? = (f (l.getD i d))[c]? := by
 have := flat_at hf d h rfl
 rw [← this, List.getElem?_take, if_pos hc, List.getElem?_drop, hj]
theorem flat_snoc (l : List α) (a : α) : (l ++ [a]).flatMap f = l.flatMap f ++ f a := by simp [List.flatMap_append]
theorem flat_set (hf : ∀ a, (f a).length = k) (a : α) : ∀ {l : List α} {i : Nat}, i < l.length → ((l.set i a).flatMap f) = (l.flatMap f).take (i * k) ++ f a ++ (l.flatMap f).drop (i * k + k)
 | [], i, h => by simp at h
 | x :: l, 0, h => by simp [List.flatMap_cons, ← hf x]
 | x :: l, i + 1, h => by
  rw [List.set_cons_succ, List.flatMap_cons, List.flatMap_cons, flat_set hf a (by simpa using h), show (i + 1) * k = (f x).length + i * k by rw [hf, Nat.add_mul]; omega, List.take_length_add_append,
   show (f x).length + i * k + k = (f x).length + (i * k + k) by omega, List.drop_length_add_append, List.append_assoc, List.append_assoc, List.append_assoc]
theorem take_snoc (d : α) {l : List α} {i : Nat} (h : i < l.length) : l.take (i + 1) = l.take i ++ [l.getD i d] := by
 rw [List.take_succ_eq_append_getElem h]; simp [h]
theorem getD_mem (d : α) {l : List α} {i : Nat} (h : i < l.length) : l.getD i d ∈ l := by simp [h]
end

theorem dec_eq {p : Prop} [Decidable p] {b : Bool} (h : p ↔ b = true) : decide p = b := by
 cases b
 ·exact decide_eq_false fun hp => by have := h.1 hp; cases this
 ·exact decide_eq_true (h.2 rfl)
/-! ### Bytes -/
abbrev bt (l : List UInt8) (k : Nat) : UInt8 := l.getD k 0
theorem bt_at {l : List UInt8} {k : Nat} (h : k < l.length) {j : Nat} (hj : j = k) : (bytesA l)[j]? = some (.val (.int .u8 ((bt l k).toNat : Int))) := by
 subst hj; simp [bytesA, h, bt]
theorem u8_lt (x : UInt8) : 0 ≤ (x.toNat : Int) ∧ (x.toNat : Int) < 256 := by have := x.toNat_lt; omega
theorem u8_small {x : Int} (h : 0 ≤ x ∧ x < 256) : ((u8 x).toNat : Int) = x := by rw [u8_toNat]; omega
theorem roB_of {n : Nat} {xs : List AV} {l : List UInt8} (h1 : n = l.length) (h2 : xs = bytesA l) : AV.ro false n xs = roB l := by subst h1; subst h2; rfl
theorem take_bt {l : List UInt8} {k : Nat} (h : k < l.length) : l.take (k + 1) = l.take k ++ [bt l k] := take_snoc 0 h
theorem bytesA_part {l : List UInt8} {a c n m : Nat} (h : a = n) (h2 : c = m) : ((bytesA l).drop (a * 1)).take (c * 1) = bytesA ((l.drop n).take m) := by subst h; subst h2; simp [bytesA, List.map_drop, List.map_take]
@[simp] theorem take_bytesA (l : List UInt8) (n : Nat) : (bytesA l).take n = bytesA (l.take n) := by simp [bytesA, List.map_take]
@[simp] theorem drop_bytesA (l : List UInt8) (n : Nat) : (bytesA l).drop n = bytesA (l.drop n) := by simp [bytesA, List.map_drop]
section
variable {P : Program} {E : Env} {H : List HE} {N : Nat} {o : Oper}
end

/-! ### Messages -/
structure Opt where
 num : Int
 val : List UInt8
 deriving DecidableEq
structure Msg where
 ty : Int
 code : Int
 id : Int
 tok : List UInt8
 opts : List Opt
 pay : List UInt8
 deriving DecidableEq
def Opt.none : Opt := ⟨0, []⟩
def Msg.none : Msg := ⟨0, 0, 0, [], [], []⟩
def cellsO (o : Opt) : List AV := [.val (.int .i64 o.num), roB o.val]
theorem cellsO_len (o : Opt) : (cellsO o).length = 2 := rfl
def optsA (os : List Opt) : List AV := os.flatMap cellsO
def roO (os : List Opt) : AV := .ro false os.length (optsA os)
def cellsM (m : Msg) : List AV := [.val (.int .i64 m.ty), .val (.int .i64 m.code), .val (.int .i64 m.id), roB m.tok, roO m.opts, roB m.pay]
abbrev aggM (m : Msg) : AV := .agg [.val (.int .i64 m.ty), .val (.int .i64 m.code), .val (.int .i64 m.id), roB m.tok, roO m.opts, roB m.pay]
abbrev aggO (o : Opt) : AV := .agg [.val (.int .i64 o.num), roB o.val]
theorem roB_cells (l : List UInt8) : (roB l).cells = [roB l] := rfl
theorem roI_cells (l : List Int) : (roI l).cells = [roI l] := rfl
theorem roO_cells (l : List Opt) : (roO l).cells = [roO l] := rfl
abbrev oat (os : List Opt) (k : Nat) : Opt := os.getD k Opt.none
@[simp] theorem optsA_len (os : List Opt) : (optsA os).length = os.length * 2 := flat_len cellsO_len os
theorem optsA_snoc (a : List Opt) (o : Opt) : optsA (a ++ [o]) = optsA a ++ [.val (.int .i64 o.num), roB o.val] := flat_snoc a o
theorem getO {os : List Opt} {k : Nat} (h : k < os.length) {j : Nat} (hj : j = k) : ((optsA os).drop (j * 2)).take 2 = [.val (.int .i64 (oat os k).num), roB (oat os k).val] := flat_at cellsO_len Opt.none h hj
end Go.Proofs.YtoonnnifelnaiaaGreatDoor.By

namespace Go.Proofs.YtoonnnifelnaiaaGreatDoor.By
open Go.RowKit L A
set_option linter.unusedVariables false
set_option maxRecDepth 20000
set_option linter.unusedSimpArgs false
attribute [local irreducible] AW AQ AO

/-- The four bits and the extension of a number. -/
def ext (n : Int) : Int × List UInt8 := if n < 13 then (n, []) else if n < 269 then (13, [u8 (n - 13)]) else (14, [u8 ((n - 269) / 256), u8 (n - 269)])
theorem ext_le (n : Int) (h : 0 ≤ n) : 0 ≤ (ext n).1 ∧ (ext n).1 ≤ 14 := by unfold ext; (repeat' split) <;> simp <;> omega
theorem ext_len (n : Int) : (ext n).2.length ≤ 2 := by unfold ext; (repeat' split) <;> simp
def hdr (d n : Int) : List UInt8 := u8 (16 * (ext d).1 + (ext n).1) :: ((ext d).2 ++ (ext n).2)
theorem hdr_len (d n : Int) : (hdr d n).length ≤ 5 := by
 have := ext_len d
 have := ext_len n
 simp only [hdr, List.length_cons, List.length_append]; omega
def rawO : Int → List Opt → List UInt8
 | _, [] => []
 | l, o :: os => hdr (o.num - l) o.val.length ++ o.val ++ rawO o.num os
def lastO : Int → List Opt → Int
 | l, [] => l
 | _, o :: os => lastO o.num os
theorem rawO_snoc (o : Opt) : ∀ (l : Int) (os : List Opt), rawO l (os ++ [o]) = rawO l os ++ (hdr (o.num - lastO l os) o.val.length ++ o.val)
 | l, [] => by simp [rawO, lastO]
 | l, p :: os => by simp [rawO, lastO, rawO_snoc o p.num os]
theorem lastO_snoc (o : Opt) : ∀ (l : Int) (os : List Opt), lastO l (os ++ [o]) = o.num
 | l, [] => rfl
 | l, p :: os => lastO_snoc o p.num os
def AscO : Int → List Opt → Prop
 | _, [] => True
 | l, o :: os => l ≤ o.num ∧ o.num ≤ 65535 ∧ (o.val.length : Int) ≤ 1034 ∧ AscO o.num os
instance AscO.dec : ∀ (l : Int) (os : List Opt), Decidable (AscO l os)
 | _, [] => isTrue trivial
 | l, o :: os => by
  unfold AscO
  have := AscO.dec o.num os
  infer_instance
theorem AscO_snoc (o : Opt) : ∀ (l : Int) (os : List Opt), AscO l (os ++ [o]) ↔ AscO l os ∧ lastO l os ≤ o.num ∧ o.num ≤ 65535 ∧ (o.val.length : Int) ≤ 1034
 | l, [] => by simp [AscO, lastO]
 | l, p :: os => by simp only [List.cons_append, AscO, lastO, AscO_snoc o p.num os]; constructor <;> (rintro h; simp_all)
theorem AscO_app : ∀ {l : Int} {os ps : List Opt}, AscO l (os ++ ps) → AscO l os
 | l, [], ps, h => trivial
 | l, o :: os, ps, h => ⟨h.1, h.2.1, h.2.2.1, AscO_app h.2.2.2⟩
theorem AscO_take {l : Int} {os : List Opt} (h : AscO l os) (k : Nat) : AscO l (os.take k) := AscO_app (ps := os.drop k) (by rw [List.take_append_drop]; exact h)
theorem AscO_at {l : Int} {os : List Opt} (h : AscO l os) {k : Nat} (hk : k < os.length) : lastO l (os.take k) ≤ (oat os k).num ∧ (oat os k).num ≤ 65535 ∧ ((oat os k).val.length : Int) ≤ 1034 := by
 have := AscO_take h (k + 1)
 rw [take_snoc Opt.none hk, AscO_snoc] at this
 exact this.2
theorem lastO_ge : ∀ {l : Int} {os : List Opt}, AscO l os → l ≤ lastO l os ∧ (os ≠ [] → lastO l os ≤ 65535)
 | l, [], h => ⟨Int.le_refl _, fun h => absurd rfl h⟩
 | l, o :: os, h => by
  have := lastO_ge h.2.2.2
  refine ⟨Int.le_trans h.1 this.1, fun _ => ?_⟩
  cases os with
  | nil => exact h.2.1
  | cons p os => exact this.2 (by simp)
theorem lastO_le {l : Int} {os : List Opt} (h : AscO l os) (hl : l ≤ 65535) : l ≤ lastO l os ∧ lastO l os ≤ 65535 := by
 refine ⟨(lastO_ge h).1, ?_⟩
 cases os with
 | nil => exact hl
 | cons p os => exact (lastO_ge h).2 (by simp)
theorem rawO_len : ∀ {l : Int} {os : List Opt}, AscO l os → (rawO l os).length ≤ os.length * 1039
 | l, [], _ => by simp [rawO]
 | l, o :: os, h => by
  have h1 := rawO_len h.2.2.2
  have h2 := hdr_len (o.num - l) o.val.length
  have h3 := h.2.2.1
  simp only [rawO, List.length_append, List.length_cons]; omega

def headM (m : Msg) : List UInt8 := [u8 (64 + 16 * m.ty + m.tok.length), u8 m.code, u8 (m.id / 256), u8 m.id]
def raw (m : Msg) : List UInt8 := headM m ++ m.tok ++ rawO 0 m.opts ++ (if m.pay = [] then [] else 255 :: m.pay)
def ClsOk (c : Int) : Prop := c / 32 = 0 ∨ c / 32 = 2 ∨ c / 32 = 4 ∨ c / 32 = 5
/-- The fields of a message are valid. -/
def OkM (m : Msg) : Prop := (0 ≤ m.ty ∧ m.ty ≤ 3 ∧ 0 ≤ m.code ∧ m.code ≤ 255 ∧ ClsOk m.code) ∧ (0 ≤ m.id ∧ m.id ≤ 65535 ∧ (m.tok.length : Int) ≤ 8 ∧ (m.opts.length : Int) ≤ 32) ∧ AscO 0 m.opts ∧
 (m.code = 0 → (m.tok.length : Int) + m.opts.length + m.pay.length ≤ 0) ∧ (m.ty = 3 → m.code = 0) ∧ (m.pay.length : Int) ≤ 4096
instance (c : Int) : Decidable (ClsOk c) := by unfold ClsOk; infer_instance
instance (m : Msg) : Decidable (OkM m) := by unfold OkM; infer_instance
def ValM (m : Msg) : Prop := OkM m ∧ ((raw m).length : Int) ≤ 4096
instance (m : Msg) : Decidable (ValM m) := by unfold ValM; infer_instance
theorem parts_fn (n : Int) (hn : -1152921504606846976 ≤ n ∧ n ≤ 1152921504606846976) : Sp Tryz.prog 108 [.val (.int .i64 n)] [] (Is (.tup [.val (.int .u8 ((u8 (ext n).1).toNat : Int)), roB (ext n).2])) := by
 refine Sp.enter Tryz.func108 rfl _ Tryz.ntmps108 rfl (fun w0 R0 => ?_)
 refine AW.seq ?_
 refine AW.region ?_
 refine AO.op (O.assign rfl rfl) rfl rfl rfl ?_
 refine AO.op (O.assign rfl rfl) rfl rfl rfl ?_
 refine AO.nil ?_
 refine AQ.thenN ?_
 refine AW.seq ?_
 refine AW.block ?_
 refine AW.seq ?_
 refine AW.region ?_
 refine AO.op (O.move rfl rfl) rfl rfl rfl ?_
 refine AO.op (O.lss rfl rfl rfl (by first | exact bTrue (by omega) | exact bFalse (by omega) | assumption | rfl)) rfl rfl rfl ?_
 refine AO.op (O.assign rfl rfl) rfl rfl rfl ?_
 refine AO.nil ?_
 refine AQ.thenN ?_
 refine AW.split rfl (fun h => ?_) (fun h => ?_) <;> (try simp only [decide_eq_true_eq, decide_eq_false_iff_not, beq_iff_eq, beq_eq_false_iff_ne, bne_iff_ne, bne_eq_false_iff_eq, Bool.not_eq_true', Bool.not_eq_false', Bool.not_eq_true, Bool.not_eq_false, ne_eq, Int.not_lt, Int.not_le, Bool.and_eq_true, Bool.or_eq_true, Bool.or_eq_false_iff, Bool.and_eq_false_imp, strOf_toList, Decidable.not_not] at h)
 ·skip
  have e : ext n = (n, []) := by unfold ext; rw [if_pos h]
  refine AW.seq ?_
  refine AW.region ?_
  refine AO.op (O.move rfl rfl) rfl rfl rfl ?_
  refine AO.op (O.conv rfl rfl wU8any) rfl rfl rfl ?_
  refine AO.op (O.assign rfl rfl) rfl rfl rfl ?_
  refine AO.op (O.assign rfl rfl) rfl rfl rfl ?_
  refine AO.nil ?_
  refine AQ.thenN ?_
  refine AW.ret ?_
  refine AQ.blockR ?_
  refine AQ.thenR ?_
  refine AQ.g ?_
  first | (refine G.unfull 3 rfl ?_) | (refine G.nilRo 3 rfl ?_) | (refine G.freezeRow 0 rfl [3] (by repeat (first | exact frNil | refine frCons rfl ?_)) ?_) | (refine G.freezeRow 1 rfl [3] (by repeat (first | exact frNil | refine frCons rfl ?_)) ?_) | (refine G.freezeRow 2 rfl [3] (by repeat (first | exact frNil | refine frCons rfl ?_)) ?_) | (refine G.freezeRow 3 rfl [3] (by repeat (first | exact frNil | refine frCons rfl ?_)) ?_) | (refine G.freezeRow 4 rfl [3] (by repeat (first | exact frNil | refine frCons rfl ?_)) ?_) | (refine G.freezeRow 5 rfl [3] (by repeat (first | exact frNil | refine frCons rfl ?_)) ?_) | (refine G.freezeRow 6 rfl [3] (by repeat (first | exact frNil | refine frCons rfl ?_)) ?_) | (refine G.freezeRow 7 rfl [3] (by repeat (first | exact frNil | refine frCons rfl ?_)) ?_) | (refine G.freezeSl 0 3 rfl rfl ⟨Nat.le_refl _, by unfold maxLen; omega⟩ ?_; refine G.unfull 3 rfl ?_) | (refine G.freezeSl 1 3 rfl rfl ⟨Nat.le_refl _, by unfold maxLen; omega⟩ ?_; refine G.unfull 3 rfl ?_) | (refine G.freezeSl 2 3 rfl rfl ⟨Nat.le_refl _, by unfold maxLen; omega⟩ ?_; refine G.unfull 3 rfl ?_) | (refine G.freezeSl 3 3 rfl rfl ⟨Nat.le_refl _, by unfold maxLen; omega⟩ ?_; refine G.unfull 3 rfl ?_) | (refine G.freezeSl 4 3 rfl rfl ⟨Nat.le_refl _, by unfold maxLen; omega⟩ ?_; refine G.unfull 3 rfl ?_) | (refine G.freezeSl 5 3 rfl rfl ⟨Nat.le_refl _, by unfold maxLen; omega⟩ ?_; refine G.unfull 3 rfl ?_) | (refine G.freezeSl 6 3 rfl rfl ⟨Nat.le_refl _, by unfold maxLen; omega⟩ ?_; refine G.unfull 3 rfl ?_) | (refine G.freezeSl 7 3 rfl rfl ⟨Nat.le_refl _, by unfold maxLen; omega⟩ ?_; refine G.unfull 3 rfl ?_)
  refine AQ.u ?_
  try dsimp only [List.map, List.eraseIdx, List.cons_append, List.nil_append]
  refine AQ.ret2 rfl rfl rfl ⟨_, List.nil_sublist _, .nil⟩ (⟨by rw [e]; rfl, rfl⟩)
 ·skip
  refine AW.seq ?_
  refine AW.region ?_
  refine AO.op (O.move rfl rfl) rfl rfl rfl ?_
  refine AO.op (O.lss rfl rfl rfl (by first | exact bTrue (by omega) | exact bFalse (by omega) | assumption | rfl)) rfl rfl rfl ?_
  refine AO.op (O.assign rfl rfl) rfl rfl rfl ?_
  refine AO.nil ?_
  refine AQ.thenN ?_
  refine AW.split rfl (fun h2 => ?_) (fun h2 => ?_) <;> (try simp only [decide_eq_true_eq, decide_eq_false_iff_not, beq_iff_eq, beq_eq_false_iff_ne, bne_iff_ne, bne_eq_false_iff_eq, Bool.not_eq_true', Bool.not_eq_false', Bool.not_eq_true, Bool.not_eq_false, ne_eq, Int.not_lt, Int.not_le, Bool.and_eq_true, Bool.or_eq_true, Bool.or_eq_false_iff, Bool.and_eq_false_imp, strOf_toList, Decidable.not_not] at h2)
  ·skip
   have e : ext n = (13, [u8 (n - 13)]) := by unfold ext; rw [if_neg (by omega), if_pos h2]
   refine AW.seq ?_
   refine AW.region ?_
   refine AO.op (O.move rfl rfl) rfl rfl rfl ?_
   refine AO.op (O.sub rfl rfl rfl (by first | exact wI64 (by omega) | rfl)) rfl rfl rfl ?_
   refine AO.op (O.conv rfl rfl wU8any) rfl rfl rfl ?_
   refine AO.opB (O.buildSlice rfl rfl rfl (by rfl) (by rfl) (by rfl) (by rfl)) rfl rfl rfl ?_
   intro B1
   refine AO.op (O.assign rfl rfl) rfl rfl rfl ?_
   refine AO.op (O.assign rfl rfl) rfl rfl rfl ?_
   refine AO.nil ?_
   refine AQ.thenN ?_
   refine AW.ret ?_
   refine AQ.blockR ?_
   refine AQ.thenR ?_
   refine AQ.g ?_
   first | (refine G.unfull 3 rfl ?_) | (refine G.nilRo 3 rfl ?_) | (refine G.freezeRow 0 rfl [3] (by repeat (first | exact frNil | refine frCons rfl ?_)) ?_) | (refine G.freezeRow 1 rfl [3] (by repeat (first | exact frNil | refine frCons rfl ?_)) ?_) | (refine G.freezeRow 2 rfl [3] (by repeat (first | exact frNil | refine frCons rfl ?_)) ?_) | (refine G.freezeRow 3 rfl [3] (by repeat (first | exact frNil | refine frCons rfl ?_)) ?_) | (refine G.freezeRow 4 rfl [3] (by repeat (first | exact frNil | refine frCons rfl ?_)) ?_) | (refine G.freezeRow 5 rfl [3] (by repeat (first | exact frNil | refine frCons rfl ?_)) ?_) | (refine G.freezeRow 6 rfl [3] (by repeat (first | exact frNil | refine frCons rfl ?_)) ?_) | (refine G.freezeRow 7 rfl [3] (by repeat (first | exact frNil | refine frCons rfl ?_)) ?_) | (refine G.freezeSl 0 3 rfl rfl ⟨Nat.le_refl _, by unfold maxLen; omega⟩ ?_; refine G.unfull 3 rfl ?_) | (refine G.freezeSl 1 3 rfl rfl ⟨Nat.le_refl _, by unfold maxLen; omega⟩ ?_; refine G.unfull 3 rfl ?_) | (refine G.freezeSl 2 3 rfl rfl ⟨Nat.le_refl _, by unfold maxLen; omega⟩ ?_; refine G.unfull 3 rfl ?_) | (refine G.freezeSl 3 3 rfl rfl ⟨Nat.le_refl _, by unfold maxLen; omega⟩ ?_; refine G.unfull 3 rfl ?_) | (refine G.freezeSl 4 3 rfl rfl ⟨Nat.le_refl _, by unfold maxLen; omega⟩ ?_; refine G.unfull 3 rfl ?_) | (refine G.freezeSl 5 3 rfl rfl ⟨Nat.le_refl _, by unfold maxLen; omega⟩ ?_; refine G.unfull 3 rfl ?_) | (refine G.freezeSl 6 3 rfl rfl ⟨Nat.le_refl _, by unfold maxLen; omega⟩ ?_; refine G.unfull 3 rfl ?_) | (refine G.freezeSl 7 3 rfl rfl ⟨Nat.le_refl _, by unfold maxLen; omega⟩ ?_; refine G.unfull 3 rfl ?_)
   refine AQ.u ?_
   try dsimp only [List.map, List.eraseIdx, List.cons_append, List.nil_append]
   refine AQ.ret2 rfl rfl rfl ⟨_, List.nil_sublist _, .nil⟩ (⟨by rw [e]; rfl, rfl⟩)
  ·skip
   have e : ext n = (14, [u8 ((n - 269) / 256), u8 (n - 269)]) := by unfold ext; rw [if_neg (by omega), if_neg (by omega)]
   refine AW.skip ?_
   refine AQ.blockN ?_
   refine AQ.thenN ?_
   refine AW.seq ?_
   refine AW.region ?_
   refine AO.op (O.move rfl rfl) rfl rfl rfl ?_
   refine AO.op (O.sub rfl rfl rfl (by first | exact wI64 (by omega) | rfl)) rfl rfl rfl ?_
   refine AO.op (O.shrK 8 256 rfl rfl rfl rfl (by rfl)) rfl rfl rfl ?_
   refine AO.op (O.conv rfl rfl wU8any) rfl rfl rfl ?_
   refine AO.op (O.move rfl rfl) rfl rfl rfl ?_
   refine AO.op (O.sub rfl rfl rfl (by first | exact wI64 (by omega) | rfl)) rfl rfl rfl ?_
   refine AO.op (O.conv rfl rfl wU8any) rfl rfl rfl ?_
   refine AO.opB (O.buildSlice rfl rfl rfl (by rfl) (by rfl) (by rfl) (by rfl)) rfl rfl rfl ?_
   intro B2
   refine AO.op (O.assign rfl rfl) rfl rfl rfl ?_
   refine AO.op (O.assign rfl rfl) rfl rfl rfl ?_
   refine AO.nil ?_
   refine AQ.thenN ?_
   refine AW.ret ?_
   refine AQ.g ?_
   first | (refine G.unfull 3 rfl ?_) | (refine G.nilRo 3 rfl ?_) | (refine G.freezeRow 0 rfl [3] (by repeat (first | exact frNil | refine frCons rfl ?_)) ?_) | (refine G.freezeRow 1 rfl [3] (by repeat (first | exact frNil | refine frCons rfl ?_)) ?_) | (refine G.freezeRow 2 rfl [3] (by repeat (first | exact frNil | refine frCons rfl ?_)) ?_) | (refine G.freezeRow 3 rfl [3] (by repeat (first | exact frNil | refine frCons rfl ?_)) ?_) | (refine G.freezeRow 4 rfl [3] (by repeat (first | exact frNil | refine frCons rfl ?_)) ?_) | (refine G.freezeRow 5 rfl [3] (by repeat (first | exact frNil | refine frCons rfl ?_)) ?_) | (refine G.freezeRow 6 rfl [3] (by repeat (first | exact frNil | refine frCons rfl ?_)) ?_) | (refine G.freezeRow 7 rfl [3] (by repeat (first | exact frNil | refine frCons rfl ?_)) ?_) | (refine G.freezeSl 0 3 rfl rfl ⟨Nat.le_refl _, by unfold maxLen; omega⟩ ?_; refine G.unfull 3 rfl ?_) | (refine G.freezeSl 1 3 rfl rfl ⟨Nat.le_refl _, by unfold maxLen; omega⟩ ?_; refine G.unfull 3 rfl ?_) | (refine G.freezeSl 2 3 rfl rfl ⟨Nat.le_refl _, by unfold maxLen; omega⟩ ?_; refine G.unfull 3 rfl ?_) | (refine G.freezeSl 3 3 rfl rfl ⟨Nat.le_refl _, by unfold maxLen; omega⟩ ?_; refine G.unfull 3 rfl ?_) | (refine G.freezeSl 4 3 rfl rfl ⟨Nat.le_refl _, by unfold maxLen; omega⟩ ?_; refine G.unfull 3 rfl ?_) | (refine G.freezeSl 5 3 rfl rfl ⟨Nat.le_refl _, by unfold maxLen; omega⟩ ?_; refine G.unfull 3 rfl ?_) | (refine G.freezeSl 6 3 rfl rfl ⟨Nat.le_refl _, by unfold maxLen; omega⟩ ?_; refine G.unfull 3 rfl ?_) | (refine G.freezeSl 7 3 rfl rfl ⟨Nat.le_refl _, by unfold maxLen; omega⟩ ?_; refine G.unfull 3 rfl ?_)
   refine AQ.u ?_
   try dsimp only [List.map, List.eraseIdx, List.cons_append, List.nil_append]
   refine AQ.ret2 rfl rfl rfl ⟨_, List.nil_sublist _, .nil⟩ (⟨by rw [e]; rfl, rfl⟩)
end Go.Proofs.YtoonnnifelnaiaaGreatDoor.By

namespace Go.Proofs.YtoonnnifelnaiaaGreatDoor.By
open Go.RowKit L A
set_option linter.unusedVariables false
set_option maxRecDepth 20000
set_option linter.unusedSimpArgs false
attribute [local irreducible] AW AQ AO

set_option maxHeartbeats 4000000 in
theorem sound_fn (m : Msg) : Sp Tryz.prog 84 [aggM m] [] (Is (.val (.bool (decide (OkM m))))) := by
 obtain ⟨ty, code, id, tok, opts, pay⟩ := m
 refine Sp.enter Tryz.func84 rfl _ Tryz.ntmps84 rfl (fun w0 R0 => ?_)
 refine AW.seq ?_
 refine AW.region ?_
 refine AO.opB (O.box rfl rfl rfl rfl rfl) rfl rfl rfl ?_
 intro B1
 refine AO.op (O.assign rfl rfl) rfl rfl rfl ?_
 refine AO.nil ?_
 refine AQ.thenN ?_
 refine AW.seq ?_
 refine AW.region ?_
 refine AO.op (O.fieldAddr rfl rfl) rfl rfl rfl ?_
 refine AO.op (O.load rfl rfl (by repeat (exact List.Mem.head _)) (by rfl)) rfl rfl rfl ?_
 refine AO.op (O.shrK 5 32 rfl rfl rfl rfl (by rfl)) rfl rfl rfl ?_
 refine AO.op (O.assign rfl rfl) rfl rfl rfl ?_
 refine AO.nil ?_
 refine AQ.thenN ?_
 refine AW.seq ?_
 refine AW.seq ?_
 refine AW.region ?_
 refine AO.op (O.fieldAddr rfl rfl) rfl rfl rfl ?_
 refine AO.op (O.load rfl rfl (by repeat (exact List.Mem.head _)) (by rfl)) rfl rfl rfl ?_
 refine AO.op (O.lss rfl rfl rfl (by rfl)) rfl rfl rfl ?_
 refine AO.op (O.move rfl rfl) rfl rfl rfl ?_
 refine AO.opG rfl rfl rfl (fun hp => O.fieldAddr rfl rfl) ?_
 refine AO.opG rfl rfl rfl (fun hp => OpW.force 14 rfl (by exact hp) (O.load rfl rfl (by repeat (exact List.Mem.head _)) (by rfl))) ?_
 refine AO.opG rfl rfl rfl (fun hp => OpW.force 15 rfl (by exact hp) (O.gtr rfl rfl rfl (by rfl))) ?_
 refine AO.op (O.pickOr rfl rfl rfl rfl (fun h => by exact congrArg (fun b => !b) h)) rfl rfl rfl ?_
 refine AO.op (O.move rfl rfl) rfl rfl rfl ?_
 refine AO.opG rfl rfl rfl (fun hp => O.fieldAddr rfl rfl) ?_
 refine AO.opG rfl rfl rfl (fun hp => OpW.force 19 rfl (by exact hp) (O.load rfl rfl (by repeat (exact List.Mem.head _)) (by rfl))) ?_
 refine AO.opG rfl rfl rfl (fun hp => OpW.force 20 rfl (by exact hp) (O.lss rfl rfl rfl (by rfl))) ?_
 refine AO.op (O.pickOr rfl rfl rfl rfl (fun h => by exact congrArg (fun b => !b) h)) rfl rfl rfl ?_
 refine AO.op (O.move rfl rfl) rfl rfl rfl ?_
 refine AO.opG rfl rfl rfl (fun hp => O.fieldAddr rfl rfl) ?_
 refine AO.opG rfl rfl rfl (fun hp => OpW.force 24 rfl (by exact hp) (O.load rfl rfl (by repeat (exact List.Mem.head _)) (by rfl))) ?_
 refine AO.opG rfl rfl rfl (fun hp => OpW.force 25 rfl (by exact hp) (O.gtr rfl rfl rfl (by rfl))) ?_
 refine AO.op (O.pickOr rfl rfl rfl rfl (fun h => by exact congrArg (fun b => !b) h)) rfl rfl rfl ?_
 refine AO.op (O.move rfl rfl) rfl rfl rfl ?_
 refine AO.opG rfl rfl rfl (fun hp => O.move rfl rfl) ?_
 refine AO.opG rfl rfl rfl (fun hp => OpW.force 29 rfl (by exact hp) (O.neq rfl rfl rfl (by rfl))) ?_
 refine AO.opG rfl rfl rfl (fun hp => OpW.force 30 rfl (by exact hp) (O.move rfl rfl)) ?_
 refine AO.opG rfl rfl rfl (fun hp => O.move rfl rfl) ?_
 refine AO.opG rfl rfl rfl (fun hp => OpW.force 32 rfl (by exact hp) (O.neq rfl rfl rfl (by rfl))) ?_
 refine AO.opG rfl rfl rfl (fun hp => OpW.force 31 rfl (by exact hp) (O.pickAnd rfl rfl rfl rfl (fun h => by simp_all))) ?_
 refine AO.opG rfl rfl rfl (fun hp => OpW.force 34 rfl (by exact hp) (O.move rfl rfl)) ?_
 refine AO.opG rfl rfl rfl (fun hp => O.move rfl rfl) ?_
 refine AO.opG rfl rfl rfl (fun hp => OpW.force 36 rfl (by exact hp) (O.neq rfl rfl rfl (by rfl))) ?_
 refine AO.opG rfl rfl rfl (fun hp => OpW.force 35 rfl (by exact hp) (O.pickAnd rfl rfl rfl rfl (fun h => by simp_all))) ?_
 refine AO.opG rfl rfl rfl (fun hp => OpW.force 38 rfl (by exact hp) (O.move rfl rfl)) ?_
 refine AO.opG rfl rfl rfl (fun hp => O.move rfl rfl) ?_
 refine AO.opG rfl rfl rfl (fun hp => OpW.force 40 rfl (by exact hp) (O.neq rfl rfl rfl (by rfl))) ?_
 refine AO.opG rfl rfl rfl (fun hp => OpW.force 39 rfl (by exact hp) (O.pickAnd rfl rfl rfl rfl (fun h => by simp_all))) ?_
 refine AO.op (O.pickOr rfl rfl rfl rfl (fun h => by exact congrArg (fun b => !b) h)) rfl rfl rfl ?_
 refine AO.nil ?_
 refine AQ.thenN ?_
 refine AW.split rfl (fun h => ?_) (fun h => ?_) <;> (try simp only [decide_eq_true_eq, decide_eq_false_iff_not, beq_iff_eq, beq_eq_false_iff_ne, bne_iff_ne, bne_eq_false_iff_eq, Bool.not_eq_true', Bool.not_eq_false', Bool.not_eq_true, Bool.not_eq_false, ne_eq, Int.not_lt, Int.not_le, Bool.and_eq_true, Bool.or_eq_true, Bool.or_eq_false_iff, Bool.and_eq_false_imp, strOf_toList, Decidable.not_not] at h)
 ·skip
  have e : decide (OkM ⟨ty, code, id, tok, opts, pay⟩) = false := by
   refine decide_eq_false fun hk => ?_
   obtain ⟨⟨a1, a2, a3, a4, a5⟩, -⟩ := hk
   simp only [ClsOk] at *
   omega
  refine AW.seq ?_
  refine AW.region ?_
  refine AO.op (O.assign rfl rfl) rfl rfl rfl ?_
  refine AO.nil ?_
  refine AQ.thenN ?_
  refine AW.ret ?_
  refine AQ.thenR ?_
  refine AQ.ret1 rfl rfl ⟨_, List.nil_sublist _, .nil⟩ (⟨congrArg (fun z => AV.val (.bool z)) e.symm, rfl⟩)
 ·skip
  refine AW.skip ?_
  refine AQ.thenN ?_
  refine AW.seq ?_
  refine AW.seq ?_
  refine AW.region ?_
  refine AO.op (O.fieldAddr rfl rfl) rfl rfl rfl ?_
  refine AO.op (O.load rfl rfl (by repeat (exact List.Mem.head _)) (by rfl)) rfl rfl rfl ?_
  refine AO.op (O.lss rfl rfl rfl (by rfl)) rfl rfl rfl ?_
  refine AO.op (O.move rfl rfl) rfl rfl rfl ?_
  refine AO.opG rfl rfl rfl (fun hp => O.fieldAddr rfl rfl) ?_
  refine AO.opG rfl rfl rfl (fun hp => OpW.force 48 rfl (by exact hp) (O.load rfl rfl (by repeat (exact List.Mem.head _)) (by rfl))) ?_
  refine AO.opG rfl rfl rfl (fun hp => OpW.force 49 rfl (by exact hp) (O.gtr rfl rfl rfl (by rfl))) ?_
  refine AO.op (O.pickOr rfl rfl rfl rfl (fun h => by exact congrArg (fun b => !b) h)) rfl rfl rfl ?_
  refine AO.op (O.move rfl rfl) rfl rfl rfl ?_
  refine AO.opG rfl rfl rfl (fun hp => O.fieldAddr rfl rfl) ?_
  refine AO.opG rfl rfl rfl (fun hp => OpW.force 53 rfl (by exact hp) (O.load rfl rfl (by repeat (exact List.Mem.head _)) (by rfl))) ?_
  refine AO.opG rfl rfl rfl (fun hp => OpW.force 54 rfl (by exact hp) (O.lenR rfl rfl)) ?_
  refine AO.opG rfl rfl rfl (fun hp => OpW.force 55 rfl (by exact hp) (O.gtr rfl rfl rfl (by rfl))) ?_
  refine AO.op (O.pickOr rfl rfl rfl rfl (fun h => by exact congrArg (fun b => !b) h)) rfl rfl rfl ?_
  refine AO.op (O.move rfl rfl) rfl rfl rfl ?_
  refine AO.opG rfl rfl rfl (fun hp => O.fieldAddr rfl rfl) ?_
  refine AO.opG rfl rfl rfl (fun hp => OpW.force 59 rfl (by exact hp) (O.load rfl rfl (by repeat (exact List.Mem.head _)) (by rfl))) ?_
  refine AO.opG rfl rfl rfl (fun hp => OpW.force 60 rfl (by exact hp) (O.lenR rfl rfl)) ?_
  refine AO.opG rfl rfl rfl (fun hp => OpW.force 61 rfl (by exact hp) (O.gtr rfl rfl rfl (by rfl))) ?_
  refine AO.op (O.pickOr rfl rfl rfl rfl (fun h => by exact congrArg (fun b => !b) h)) rfl rfl rfl ?_
  refine AO.nil ?_
  refine AQ.thenN ?_
  refine AW.split rfl (fun h2 => ?_) (fun h2 => ?_) <;> (try simp only [decide_eq_true_eq, decide_eq_false_iff_not, beq_iff_eq, beq_eq_false_iff_ne, bne_iff_ne, bne_eq_false_iff_eq, Bool.not_eq_true', Bool.not_eq_false', Bool.not_eq_true, Bool.not_eq_false, ne_eq, Int.not_lt, Int.not_le, Bool.and_eq_true, Bool.or_eq_true, Bool.or_eq_false_iff, Bool.and_eq_false_imp, strOf_toList, Decidable.not_not] at h2)
  ·skip
   have e : decide (OkM ⟨ty, code, id, tok, opts, pay⟩) = false := by
    refine decide_eq_false fun hk => ?_
    obtain ⟨-, ⟨a1, a2, a3, a4⟩, -⟩ := hk
    simp only at *
    omega
   refine AW.seq ?_
   refine AW.region ?_
   refine AO.op (O.assign rfl rfl) rfl rfl rfl ?_
   refine AO.nil ?_
   refine AQ.thenN ?_
   refine AW.ret ?_
   refine AQ.thenR ?_
   refine AQ.ret1 rfl rfl ⟨_, List.nil_sublist _, .nil⟩ (⟨congrArg (fun z => AV.val (.bool z)) e.symm, rfl⟩)
  ·skip
   refine AW.skip ?_
   refine AQ.thenN ?_
   refine AW.seq ?_
   refine AW.region ?_
   refine AO.op (O.assign rfl rfl) rfl rfl rfl ?_
   refine AO.nil ?_
   refine AQ.thenN ?_
   refine AW.seq ?_
   refine AW.seq ?_
   refine AW.region ?_
   refine AO.op (O.fieldAddr rfl rfl) rfl rfl rfl ?_
   refine AO.op (O.load rfl rfl (by repeat (exact List.Mem.head _)) (by rfl)) rfl rfl rfl ?_
   refine AO.op (O.lenR rfl rfl) rfl rfl rfl ?_
   refine AO.op (O.move rfl rfl) rfl rfl rfl ?_
   refine AO.nil ?_
   refine AQ.thenN ?_
   refine AW.block ?_
   refine AW.loopK [(1, _), (65, _), (66, _)] (fun nn E H => ∃ (k : Nat), (k ≤ opts.length) ∧ (AscO 0 (opts.take k)) ∧ nn = opts.length - k ∧ E = [(4, .val (.int .i64 (lastO 0 (opts.take k)))), (67, .val (.int .i64 (k : Int)))] ∧ H = [.blk B1 41 6 [.val (.int .i64 ty), .val (.int .i64 code), .val (.int .i64 id), roB tok, roO opts, roB pay]]) _ (⟨0, by omega, trivial, rfl, rfl, rfl⟩) (by repeat (first | exact envNil | refine envCons rfl ?_)) (by repeat (first | exact envNil | refine envCons rfl ?_)) (by repeat (first | exact subPnil | refine subPcons 0 rfl ?_)) ?_
   rintro nn E H ⟨k, h1, ha, rfl, rfl, rfl⟩
   dsimp only [List.cons_append, List.nil_append]
   refine AW.seq ?_
   refine AW.region ?_
   refine AO.op (O.lss rfl rfl rfl (by rfl)) rfl rfl rfl ?_
   refine AO.nil ?_
   refine AQ.thenN ?_
   refine AW.seq ?_
   refine AW.split rfl (fun h3 => ?_) (fun h3 => ?_) <;> (try simp only [decide_eq_true_eq, decide_eq_false_iff_not, beq_iff_eq, beq_eq_false_iff_ne, bne_iff_ne, bne_eq_false_iff_eq, Bool.not_eq_true', Bool.not_eq_false', Bool.not_eq_true, Bool.not_eq_false, ne_eq, Int.not_lt, Int.not_le, Bool.and_eq_true, Bool.or_eq_true, Bool.or_eq_false_iff, Bool.and_eq_false_imp, strOf_toList, Decidable.not_not] at h3)
   ·skip
    have hk : k < opts.length := by omega
    refine AW.skip ?_
    refine AQ.thenN ?_
    refine AW.seq ?_
    refine AW.block ?_
    refine AW.seq ?_
    refine AW.region ?_
    refine AO.op (O.idxR rfl rfl rfl ⟨(by omega), (by omega)⟩) rfl rfl rfl ?_
    refine AO.op (O.loadRK rfl rfl (by exact getO (by omega) (by omega)) (by rfl)) rfl rfl rfl ?_
    refine AO.opB (O.alloc rfl (by (dsimp only [zerosA, List.replicate, List.append, List.flatten, AV.cells, Value.cells, List.toList_toArray, List.map]; done)) (by rfl)) rfl rfl rfl ?_
    intro B2
    (refine AO.store (i := 0) rfl rfl rfl rfl rfl rfl (by rfl) (by rfl) (by rfl) (by (dsimp only [List.set, List.cons_append, List.nil_append, List.take, List.drop]; done)) (by (dsimp only [List.set, List.cons_append, List.nil_append, List.take, List.drop]; done)) ?_)
    refine AO.nil ?_
    refine AQ.thenN ?_
    refine AW.seq ?_
    refine AW.seq ?_
    refine AW.region ?_
    refine AO.op (O.fieldAddr rfl rfl) rfl rfl rfl ?_
    refine AO.op (O.load rfl rfl (by repeat (exact List.Mem.head _)) (by rfl)) rfl rfl rfl ?_
    refine AO.op (O.move rfl rfl) rfl rfl rfl ?_
    refine AO.op (O.lss rfl rfl rfl (by rfl)) rfl rfl rfl ?_
    refine AO.op (O.move rfl rfl) rfl rfl rfl ?_
    refine AO.opG rfl rfl rfl (fun hp => O.fieldAddr rfl rfl) ?_
    refine AO.opG rfl rfl rfl (fun hp => OpW.force 76 rfl (by exact hp) (O.load rfl rfl (by repeat (exact List.Mem.head _)) (by rfl))) ?_
    refine AO.opG rfl rfl rfl (fun hp => OpW.force 77 rfl (by exact hp) (O.gtr rfl rfl rfl (by rfl))) ?_
    refine AO.op (O.pickOr rfl rfl rfl rfl (fun h => by exact congrArg (fun b => !b) h)) rfl rfl rfl ?_
    refine AO.op (O.move rfl rfl) rfl rfl rfl ?_
    refine AO.opG rfl rfl rfl (fun hp => O.fieldAddr rfl rfl) ?_
    refine AO.opG rfl rfl rfl (fun hp => OpW.force 81 rfl (by exact hp) (O.load rfl rfl (by repeat (exact List.Mem.head _)) (by rfl))) ?_
    refine AO.opG rfl rfl rfl (fun hp => OpW.force 82 rfl (by exact hp) (O.lenR rfl rfl)) ?_
    refine AO.opG rfl rfl rfl (fun hp => OpW.force 83 rfl (by exact hp) (O.gtr rfl rfl rfl (by rfl))) ?_
    refine AO.op (O.pickOr rfl rfl rfl rfl (fun h => by exact congrArg (fun b => !b) h)) rfl rfl rfl ?_
    refine AO.nil ?_
    refine AQ.thenN ?_
    refine AW.split rfl (fun h4 => ?_) (fun h4 => ?_) <;> (try simp only [decide_eq_true_eq, decide_eq_false_iff_not, beq_iff_eq, beq_eq_false_iff_ne, bne_iff_ne, bne_eq_false_iff_eq, Bool.not_eq_true', Bool.not_eq_false', Bool.not_eq_true, Bool.not_eq_false, ne_eq, Int.not_lt, Int.not_le, Bool.and_eq_true, Bool.or_eq_true, Bool.or_eq_false_iff, Bool.and_eq_false_imp, strOf_toList, Decidable.not_not] at h4)
    ·skip
     have e : decide (OkM ⟨ty, code, id, tok, opts, pay⟩) = false := by
      refine decide_eq_false fun hk' => ?_
      obtain ⟨-, -, a1, -⟩ := hk'
      have := AscO_at a1 hk
      simp only at this
      omega
     refine AW.seq ?_
     refine AW.region ?_
     refine AO.op (O.assign rfl rfl) rfl rfl rfl ?_
     refine AO.nil ?_
     refine AQ.thenN ?_
     refine AW.ret ?_
     refine AQ.thenR ?_
     refine AQ.blockR ?_
     refine AQ.thenR ?_
     refine AQ.loopR ?_
     refine AQ.blockR ?_
     refine AQ.thenR ?_
     refine AQ.ret1 rfl rfl ⟨_, List.nil_sublist _, .nil⟩ (⟨congrArg (fun z => AV.val (.bool z)) e.symm, rfl⟩)
    ·skip
     have ha2 : AscO 0 (opts.take (k + 1)) := by
      rw [take_snoc Opt.none hk, AscO_snoc]
      exact ⟨ha, h4.1.1, h4.1.2, h4.2⟩
     have hl2 : lastO 0 (opts.take (k + 1)) = (oat opts k).num := by rw [take_snoc Opt.none hk, lastO_snoc]
     refine AW.skip ?_
     refine AQ.thenN ?_
     refine AW.region ?_
     refine AO.op (O.fieldAddr rfl rfl) rfl rfl rfl ?_
     refine AO.op (O.load rfl rfl (by repeat (exact List.Mem.head _)) (by rfl)) rfl rfl rfl ?_
     refine AO.op (O.assign rfl rfl) rfl rfl rfl ?_
     refine AO.nil ?_
     refine AQ.blockN ?_
     refine AQ.thenN ?_
     refine AW.region ?_
     refine AO.op (O.add rfl rfl rfl (by exact wI64 (by omega))) rfl rfl rfl ?_
     refine AO.op (O.move rfl rfl) rfl rfl rfl ?_
     refine AO.nil ?_
     refine AQ.loopKN _ _ _ (by omega) (⟨k + 1, by omega, ha2, rfl, by rw [hl2], rfl⟩) (by repeat (first | exact envNil | refine envCons rfl ?_)) (by repeat (first | exact envNil | refine envCons rfl ?_)) (by repeat (first | exact subPnil | refine subPcons 1 rfl ?_))
   ·skip
    obtain rfl : k = opts.length := by omega
    rw [List.take_length] at ha
    have hw : (pay.length : Int) ≤ 4096 → IntKind.i64.wrap ((tok.length : Int) + opts.length + pay.length) = (tok.length : Int) + opts.length + pay.length := fun h => wI64 (by omega)
    refine AW.exit ?_
    refine AQ.thenX ?_
    refine AQ.loopX ?_
    refine AQ.blockX rfl ?_
    refine AQ.thenN ?_
    refine AW.seq ?_
    refine AW.seq ?_
    refine AW.region ?_
    refine AO.op (O.fieldAddr rfl rfl) rfl rfl rfl ?_
    refine AO.op (O.load rfl rfl (by repeat (exact List.Mem.head _)) (by rfl)) rfl rfl rfl ?_
    refine AO.op (O.eql rfl rfl rfl (by rfl)) rfl rfl rfl ?_
    refine AO.op (O.move rfl rfl) rfl rfl rfl ?_
    refine AO.opG rfl rfl rfl (fun hp => O.fieldAddr rfl rfl) ?_
    refine AO.opG rfl rfl rfl (fun hp => OpW.force 93 rfl (by exact hp) (O.load rfl rfl (by repeat (exact List.Mem.head _)) (by rfl))) ?_
    refine AO.opG rfl rfl rfl (fun hp => OpW.force 94 rfl (by exact hp) (O.lenR rfl rfl)) ?_
    refine AO.opG rfl rfl rfl (fun hp => O.fieldAddr rfl rfl) ?_
    refine AO.opG rfl rfl rfl (fun hp => OpW.force 96 rfl (by exact hp) (O.load rfl rfl (by repeat (exact List.Mem.head _)) (by rfl))) ?_
    refine AO.opG rfl rfl rfl (fun hp => OpW.force 97 rfl (by exact hp) (O.lenR rfl rfl)) ?_
    refine AO.opG rfl rfl rfl (fun hp => OpW.force 95 rfl (by exact hp) (OpW.force 98 rfl (by exact hp) (O.add rfl rfl rfl (by exact wI64 (by omega))))) ?_
    refine AO.opG rfl rfl rfl (fun hp => O.fieldAddr rfl rfl) ?_
    refine AO.opG rfl rfl rfl (fun hp => OpW.force 100 rfl (by exact hp) (O.load rfl rfl (by repeat (exact List.Mem.head _)) (by rfl))) ?_
    refine AO.opG rfl rfl rfl (fun hp => OpW.force 101 rfl (by exact hp) (O.lenR rfl rfl)) ?_
    refine AO.opG rfl rfl rfl (fun hp => OpW.force 99 rfl (by exact hp) (OpW.force 102 rfl (by exact hp) (O.add rfl rfl rfl (by rfl)))) ?_
    refine AO.opG rfl rfl rfl (fun hp => OpW.force 103 rfl (by exact hp) (O.gtr rfl rfl rfl (by rfl))) ?_
    refine AO.op (O.pickAnd rfl rfl rfl rfl (fun h => by exact h)) rfl rfl rfl ?_
    refine AO.nil ?_
    refine AQ.thenN ?_
    refine AW.split rfl (fun h5 => ?_) (fun h5 => ?_) <;> (try simp only [decide_eq_true_eq, decide_eq_false_iff_not, beq_iff_eq, beq_eq_false_iff_ne, bne_iff_ne, bne_eq_false_iff_eq, Bool.not_eq_true', Bool.not_eq_false', Bool.not_eq_true, Bool.not_eq_false, ne_eq, Int.not_lt, Int.not_le, Bool.and_eq_true, Bool.or_eq_true, Bool.or_eq_false_iff, Bool.and_eq_false_imp, strOf_toList, Decidable.not_not] at h5)
    ·skip
     have e : decide (OkM ⟨ty, code, id, tok, opts, pay⟩) = false := by
      refine decide_eq_false fun hk' => ?_
      obtain ⟨-, -, -, a1, -, a2⟩ := hk'
      simp only at a1 a2
      have h6 := h5.2
      rw [hw a2] at h6
      have := a1 h5.1
      omega
     refine AW.seq ?_
     refine AW.region ?_
     refine AO.op (O.assign rfl rfl) rfl rfl rfl ?_
     refine AO.nil ?_
     refine AQ.thenN ?_
     refine AW.ret ?_
     refine AQ.thenR ?_
     refine AQ.ret1 rfl rfl ⟨_, List.nil_sublist _, .nil⟩ (⟨congrArg (fun z => AV.val (.bool z)) e.symm, rfl⟩)
    ·skip
     refine AW.skip ?_
     refine AQ.thenN ?_
     refine AW.seq ?_
     refine AW.region ?_
     refine AO.op (O.fieldAddr rfl rfl) rfl rfl rfl ?_
     refine AO.op (O.load rfl rfl (by repeat (exact List.Mem.head _)) (by rfl)) rfl rfl rfl ?_
     refine AO.op (O.neq rfl rfl rfl (by rfl)) rfl rfl rfl ?_
     refine AO.op (O.move rfl rfl) rfl rfl rfl ?_
     refine AO.opG rfl rfl rfl (fun hp => O.fieldAddr rfl rfl) ?_
     refine AO.opG rfl rfl rfl (fun hp => OpW.force 110 rfl (by exact hp) (O.load rfl rfl (by repeat (exact List.Mem.head _)) (by rfl))) ?_
     refine AO.opG rfl rfl rfl (fun hp => OpW.force 111 rfl (by exact hp) (O.eql rfl rfl rfl (by rfl))) ?_
     refine AO.op (O.pickOr rfl rfl rfl rfl (fun h => by exact congrArg (fun b => !b) h)) rfl rfl rfl ?_
     refine AO.op (O.move rfl rfl) rfl rfl rfl ?_
     refine AO.opG rfl rfl rfl (fun hp => O.fieldAddr rfl rfl) ?_
     refine AO.opG rfl rfl rfl (fun hp => OpW.force 115 rfl (by exact hp) (O.load rfl rfl (by repeat (exact List.Mem.head _)) (by rfl))) ?_
     refine AO.opG rfl rfl rfl (fun hp => OpW.force 116 rfl (by exact hp) (O.lenR rfl rfl)) ?_
     refine AO.opG rfl rfl rfl (fun hp => OpW.force 117 rfl (by exact hp) (O.leq rfl rfl rfl (by rfl))) ?_
     refine AO.op (O.pickAnd rfl rfl rfl rfl (fun h => by exact h)) rfl rfl rfl ?_
     refine AO.op (O.assign rfl rfl) rfl rfl rfl ?_
     refine AO.nil ?_
     refine AQ.thenN ?_
     refine AW.ret ?_
     have e : decide (OkM ⟨ty, code, id, tok, opts, pay⟩) = ((ty != 3 || code == 0) && decide ((pay.length : Int) ≤ 4096)) := by
      refine dec_eq ?_
      simp only [OkM, Bool.and_eq_true, Bool.or_eq_true, bne_iff_ne, beq_iff_eq, decide_eq_true_eq, ne_eq]
      constructor
      ·rintro ⟨-, -, -, -, a1, a2⟩
       refine ⟨?_, a2⟩
       by_cases h9 : ty = 3
       ·exact .inr (a1 h9)
       ·exact .inl h9
      ·rintro ⟨a1, a2⟩
       refine ⟨⟨by omega, by omega, by omega, by omega, ?_⟩, ⟨by omega, by omega, by omega, by omega⟩, ha, ?_, ?_, a2⟩
       ·unfold ClsOk; omega
       ·intro h9
        rcases Int.lt_or_le 0 ((tok.length : Int) + opts.length + pay.length) with h | h
        ·exact absurd h (by have := h5 h9; rw [hw a2] at this; omega)
        ·exact h
       ·intro h9
        rcases a1 with a1 | a1
        ·exact absurd h9 a1
        ·exact a1
     refine AQ.ret1 rfl rfl ⟨_, List.nil_sublist _, .nil⟩ (⟨congrArg (fun z => AV.val (.bool z)) e.symm, rfl⟩)
end Go.Proofs.YtoonnnifelnaiaaGreatDoor.By

namespace Go.Proofs.YtoonnnifelnaiaaGreatDoor.By
open Go.RowKit L A
set_option linter.unusedVariables false
set_option maxRecDepth 20000
set_option linter.unusedSimpArgs false
attribute [local irreducible] AW AQ AO

def rawTo (m : Msg) (k : Nat) : List UInt8 := headM m ++ m.tok ++ rawO 0 (m.opts.take k)
theorem rawTo_succ {m : Msg} {k : Nat} (h : k < m.opts.length) : rawTo m (k + 1) = rawTo m k ++ (hdr ((oat m.opts k).num - lastO 0 (m.opts.take k)) (oat m.opts k).val.length ++ (oat m.opts k).val) := by
 rw [rawTo, take_snoc Opt.none h, rawO_snoc, rawTo]; simp
theorem rawTo_len {m : Msg} (h : OkM m) (k : Nat) : (rawTo m k).length ≤ 12 + k * 1039 := by
 have h1 := rawO_len (AscO_take h.2.2.1 k)
 have h2 := h.2.1.2.2.1
 simp only [rawTo, headM, List.length_append, List.length_cons, List.length_nil, List.length_take] at h1 ⊢
 have : min k m.opts.length * 1039 ≤ k * 1039 := Nat.mul_le_mul_right _ (Nat.min_le_left _ _)
 omega
theorem raw_end (m : Msg) : raw m = rawTo m m.opts.length ++ (if m.pay = [] then [] else 255 :: m.pay) := by rw [raw, rawTo, List.take_length]

set_option maxHeartbeats 4000000 in
theorem encode_fn (m : Msg) (h : OkM m) : Sp Tryz.prog 85 [aggM m] [] (Is (roB (raw m))) := by
 have hlen := fun k => rawTo_len h k
 obtain ⟨⟨a1, a2, a3, a4, a5⟩, ⟨a6, a7, a8, a9⟩, a10, -, -, a11⟩ := h
 refine Sp.enter Tryz.func85 rfl _ Tryz.ntmps85 rfl (fun w0 R0 => ?_)
 have hd0a : (rawTo m 0).length = 4 + m.tok.length := by simp [rawTo, headM, rawO]; omega
 have hd0b : bytesA (rawTo m 0) = .val (.int .u8 ((u8 (64 + m.ty * 16 + m.tok.length)).toNat : Int)) :: .val (.int .u8 ((u8 m.code).toNat : Int)) :: .val (.int .u8 ((u8 (m.id / 256)).toNat : Int)) :: .val (.int .u8 ((u8 m.id).toNat : Int)) :: bytesA m.tok := by
  simp only [rawTo, headM, List.take_zero, rawO, List.append_nil, bytesA_app]
  simp [bytesA, show m.ty * 16 = 16 * m.ty by omega]
 refine AW.seq ?_
 refine AW.region ?_
 refine AO.opB (O.box rfl rfl rfl rfl rfl) rfl rfl rfl ?_
 intro B1
 refine AO.op (O.assign rfl rfl) rfl rfl rfl ?_
 refine AO.nil ?_
 refine AQ.thenN ?_
 refine AW.seq ?_
 refine AW.region ?_
 refine AO.op (O.fieldAddr rfl rfl) rfl rfl rfl ?_
 refine AO.op (O.load rfl rfl (by repeat (exact List.Mem.head _)) (by rfl)) rfl rfl rfl ?_
 refine AO.op (O.shlK 4 16 rfl rfl rfl rfl (by rfl) (by exact wI64 (by omega))) rfl rfl rfl ?_
 refine AO.op (O.or_ rfl rfl rfl (orI64 6 (m := 64) (by decide) (by omega) (by omega))) rfl rfl rfl ?_
 refine AO.op (O.fieldAddr rfl rfl) rfl rfl rfl ?_
 refine AO.op (O.load rfl rfl (by repeat (exact List.Mem.head _)) (by rfl)) rfl rfl rfl ?_
 refine AO.op (O.lenR rfl rfl) rfl rfl rfl ?_
 refine AO.op (O.or_ rfl rfl rfl (orI64 4 (m := 16) (by decide) (by omega) (by omega))) rfl rfl rfl ?_
 refine AO.op (O.conv rfl rfl wU8any) rfl rfl rfl ?_
 refine AO.op (O.fieldAddr rfl rfl) rfl rfl rfl ?_
 refine AO.op (O.load rfl rfl (by repeat (exact List.Mem.head _)) (by rfl)) rfl rfl rfl ?_
 refine AO.op (O.conv rfl rfl wU8any) rfl rfl rfl ?_
 refine AO.op (O.fieldAddr rfl rfl) rfl rfl rfl ?_
 refine AO.op (O.load rfl rfl (by repeat (exact List.Mem.head _)) (by rfl)) rfl rfl rfl ?_
 refine AO.op (O.shrK 8 256 rfl rfl rfl rfl (by rfl)) rfl rfl rfl ?_
 refine AO.op (O.conv rfl rfl wU8any) rfl rfl rfl ?_
 refine AO.op (O.fieldAddr rfl rfl) rfl rfl rfl ?_
 refine AO.op (O.load rfl rfl (by repeat (exact List.Mem.head _)) (by rfl)) rfl rfl rfl ?_
 refine AO.op (O.conv rfl rfl wU8any) rfl rfl rfl ?_
 refine AO.opB (O.buildSlice rfl rfl rfl (by rfl) (by rfl) (by rfl) (by rfl)) rfl rfl rfl ?_
 intro B2
 refine AO.g ?_
 refine G.closeRow (b := B2) (n := 4) (cap := 4) 0 rfl rfl rfl (Nat.le_refl _) (by (unfold maxLen; omega)) ?_
 refine AO.u ?_
 dsimp only [List.set]
 refine AO.op (O.assign rfl rfl) rfl rfl rfl ?_
 refine AO.nil ?_
 refine AQ.thenN ?_
 refine AW.seq ?_
 refine AW.region ?_
 refine AO.op (O.move rfl rfl) rfl rfl rfl ?_
 refine AO.op (O.fieldAddr rfl rfl) rfl rfl rfl ?_
 refine AO.op (O.load rfl rfl (by repeat (first | exact List.Mem.head _ | refine List.Mem.tail _ ?_)) (by rfl)) rfl rfl rfl ?_
 (refine AO.append' (i := 0) rfl rfl rfl rfl (by rfl) (by rfl) rfl rfl rfl (by exact SrcA.ro TyD.ax (by (simp; done)) (Nat.le_of_ble_eq_true rfl)) (by (simp [AV.cells, AV.one, *]; done)) (by (unfold maxLen; omega)) (by omega) (by (dsimp only [List.set, List.append, List.cons_append, List.nil_append, roB_cells, roI_cells, roO_cells, splice, ofConst, AV.cells, List.map, List.map_cons, List.map_nil, List.take, List.drop, Nat.zero_add, Nat.add_zero, Nat.reduceAdd, Nat.reduceMul, Nat.zero_mul, Value.cells, List.toList_toArray, zerosA, List.replicate, List.flatten, List.append_nil]; done)) (fun _ => by (dsimp only [List.set]; done)) ?_)
 intro V3 hV3
 refine AO.op (O.assign rfl rfl) rfl rfl rfl ?_
 refine AO.nil ?_
 refine AQ.thenN ?_
 refine AW.seq ?_
 refine AW.region ?_
 refine AO.op (O.assign rfl rfl) rfl rfl rfl ?_
 refine AO.nil ?_
 refine AQ.thenN ?_
 refine AW.seq ?_
 refine AW.seq ?_
 refine AW.region ?_
 refine AO.op (O.fieldAddr rfl rfl) rfl rfl rfl ?_
 refine AO.op (O.load rfl rfl (by repeat (first | exact List.Mem.head _ | refine List.Mem.tail _ ?_)) (by rfl)) rfl rfl rfl ?_
 refine AO.op (O.lenR rfl rfl) rfl rfl rfl ?_
 refine AO.op (O.move rfl rfl) rfl rfl rfl ?_
 refine AO.nil ?_
 refine AQ.thenN ?_
 refine AW.block ?_
 refine AW.loopK [(1, _), (36, _), (37, _)] (fun nn E H => ∃ (k : Nat) (V : Value), (k ≤ m.opts.length) ∧ (V.oneCell' = true) ∧ nn = m.opts.length - k ∧ E = [(3, .val V), (4, .val (.int .i64 (lastO 0 (m.opts.take k)))), (38, .val (.int .i64 (k : Int)))] ∧ H = [.row V 5 1 (rawTo m k).length (bytesA (rawTo m k)), .blk B1 41 6 [.val (.int .i64 m.ty), .val (.int .i64 m.code), .val (.int .i64 m.id), roB m.tok, roO m.opts, roB m.pay]]) _ (⟨0, V3, by omega, hV3, rfl, rfl, by rw [hd0b, hd0a]⟩) (by repeat (first | exact envNil | refine envCons rfl ?_)) (by repeat (first | exact envNil | refine envCons rfl ?_)) (by repeat (first | exact subPnil | refine subPcons 0 rfl ?_)) ?_
 rintro nn E H ⟨k, V, h1, hV, rfl, rfl, rfl⟩
 dsimp only [List.cons_append, List.nil_append]
 have hl0 := hlen k
 refine AW.seq ?_
 refine AW.region ?_
 refine AO.op (O.lss rfl rfl rfl (by rfl)) rfl rfl rfl ?_
 refine AO.nil ?_
 refine AQ.thenN ?_
 refine AW.seq ?_
 refine AW.split rfl (fun h3 => ?_) (fun h3 => ?_) <;> (try simp only [decide_eq_true_eq, decide_eq_false_iff_not, beq_iff_eq, beq_eq_false_iff_ne, bne_iff_ne, bne_eq_false_iff_eq, Bool.not_eq_true', Bool.not_eq_false', Bool.not_eq_true, Bool.not_eq_false, ne_eq, Int.not_lt, Int.not_le, Bool.and_eq_true, Bool.or_eq_true, Bool.or_eq_false_iff, Bool.and_eq_false_imp, strOf_toList, Decidable.not_not] at h3)
 ·skip
  have hk : k < m.opts.length := by omega
  have hl1 := hlen (k + 1)
  have ho := AscO_at a10 hk
  have hla := lastO_le (AscO_take a10 k) (by omega)
  have hd1 := ext_le ((oat m.opts k).num - lastO 0 (m.opts.take k)) (by omega)
  have hq1 := ext_le ((oat m.opts k).val.length : Int) (by omega)
  have hd2 := ext_len ((oat m.opts k).num - lastO 0 (m.opts.take k))
  have hq2 := ext_len ((oat m.opts k).val.length : Int)
  have hdu := u8_small (x := (ext ((oat m.opts k).num - lastO 0 (m.opts.take k))).1) (by omega)
  have hqu := u8_small (x := (ext ((oat m.opts k).val.length : Int)).1) (by omega)
  have hxu := u8_small (x := 16 * (ext ((oat m.opts k).num - lastO 0 (m.opts.take k))).1 + (ext ((oat m.opts k).val.length : Int)).1) (by omega)
  have hxv : ((u8 (16 * (ext ((oat m.opts k).num - lastO 0 (m.opts.take k))).1 + (ext ((oat m.opts k).val.length : Int)).1)).toNat : Int) = ((u8 (ext ((oat m.opts k).num - lastO 0 (m.opts.take k))).1).toNat : Int) * 16 + ((u8 (ext ((oat m.opts k).val.length : Int)).1).toNat : Int) := by omega
  have hlast : lastO 0 (m.opts.take (k + 1)) = (oat m.opts k).num := by rw [take_snoc Opt.none hk, lastO_snoc]
  have hsc : bytesA (rawTo m (k + 1)) = bytesA (rawTo m k) ++ [.val (.int .u8 (((u8 (ext ((oat m.opts k).num - lastO 0 (m.opts.take k))).1).toNat : Int) * 16 + ((u8 (ext ((oat m.opts k).val.length : Int)).1).toNat : Int)))] ++ bytesA (ext ((oat m.opts k).num - lastO 0 (m.opts.take k))).2 ++ bytesA (ext ((oat m.opts k).val.length : Int)).2 ++ bytesA (oat m.opts k).val := by
   rw [rawTo_succ hk, hdr]
   simp only [bytesA_app, List.append_assoc, List.cons_append, bytesA, List.map_cons, List.map_nil, List.nil_append, List.map_append, hxv]
  have hsl : (rawTo m (k + 1)).length = (rawTo m k).length + 1 + (ext ((oat m.opts k).num - lastO 0 (m.opts.take k))).2.length + (ext ((oat m.opts k).val.length : Int)).2.length + (oat m.opts k).val.length := by
   rw [rawTo_succ hk, hdr]
   simp only [List.length_append, List.length_cons]; omega
  refine AW.skip ?_
  refine AQ.thenN ?_
  refine AW.seq ?_
  refine AW.block ?_
  refine AW.seq ?_
  refine AW.region ?_
  refine AO.op (O.idxR rfl rfl rfl ⟨(by omega), (by omega)⟩) rfl rfl rfl ?_
  refine AO.op (O.loadRK rfl rfl (by exact getO (by omega) (by omega)) (by rfl)) rfl rfl rfl ?_
  refine AO.opB (O.alloc rfl (by (dsimp only [List.set, List.append, List.cons_append, List.nil_append, roB_cells, roI_cells, roO_cells, splice, ofConst, AV.cells, List.map, List.map_cons, List.map_nil, List.take, List.drop, Nat.zero_add, Nat.add_zero, Nat.reduceAdd, Nat.reduceMul, Nat.zero_mul, Value.cells, List.toList_toArray, zerosA, List.replicate, List.flatten, List.append_nil]; done)) (by rfl)) rfl rfl rfl ?_
  intro B4
  (refine AO.store (i := 0) rfl rfl rfl rfl rfl rfl (by rfl) (by rfl) (by rfl) (by (dsimp only [List.set, List.append, List.cons_append, List.nil_append, roB_cells, roI_cells, roO_cells, splice, ofConst, AV.cells, List.map, List.map_cons, List.map_nil, List.take, List.drop, Nat.zero_add, Nat.add_zero, Nat.reduceAdd, Nat.reduceMul, Nat.zero_mul, Value.cells, List.toList_toArray, zerosA, List.replicate, List.flatten, List.append_nil]; done)) (by (dsimp only [List.set, List.append, List.cons_append, List.nil_append, roB_cells, roI_cells, roO_cells, splice, ofConst, AV.cells, List.map, List.map_cons, List.map_nil, List.take, List.drop, Nat.zero_add, Nat.add_zero, Nat.reduceAdd, Nat.reduceMul, Nat.zero_mul, Value.cells, List.toList_toArray, zerosA, List.replicate, List.flatten, List.append_nil]; done)) ?_)
  refine AO.nil ?_
  refine AQ.thenN ?_
  refine AW.seq ?_
  refine AW.region ?_
  refine AO.op (O.fieldAddr rfl rfl) rfl rfl rfl ?_
  refine AO.op (O.load rfl rfl (by repeat (exact List.Mem.head _)) (by rfl)) rfl rfl rfl ?_
  refine AO.op (O.move rfl rfl) rfl rfl rfl ?_
  refine AO.op (O.sub rfl rfl rfl (by exact wI64 (by omega))) rfl rfl rfl ?_
  refine AO.op (O.call rfl Tryz.func108 rfl rfl rfl (parts_fn _ ⟨by omega, by omega⟩)) rfl rfl rfl ?_
  refine AO.op (O.move rfl rfl) rfl rfl rfl ?_
  refine AO.op (O.extract rfl rfl rfl) rfl rfl rfl ?_
  refine AO.op (O.extract rfl rfl rfl) rfl rfl rfl ?_
  refine AO.op (O.assign rfl rfl) rfl rfl rfl ?_
  refine AO.op (O.assign rfl rfl) rfl rfl rfl ?_
  refine AO.nil ?_
  refine AQ.thenN ?_
  refine AW.seq ?_
  refine AW.region ?_
  refine AO.op (O.fieldAddr rfl rfl) rfl rfl rfl ?_
  refine AO.op (O.load rfl rfl (by repeat (exact List.Mem.head _)) (by rfl)) rfl rfl rfl ?_
  refine AO.op (O.lenR rfl rfl) rfl rfl rfl ?_
  refine AO.op (O.call rfl Tryz.func108 rfl rfl rfl (parts_fn _ ⟨by omega, by omega⟩)) rfl rfl rfl ?_
  refine AO.op (O.move rfl rfl) rfl rfl rfl ?_
  refine AO.op (O.extract rfl rfl rfl) rfl rfl rfl ?_
  refine AO.op (O.extract rfl rfl rfl) rfl rfl rfl ?_
  refine AO.op (O.assign rfl rfl) rfl rfl rfl ?_
  refine AO.op (O.assign rfl rfl) rfl rfl rfl ?_
  refine AO.nil ?_
  refine AQ.thenN ?_
  refine AW.seq ?_
  refine AW.regionM [(0, false), (1, false), (2, false), (3, false), (4, false), (5, false), (7, false), (9, false), (11, false), (12, false), (6, true), (8, true), (10, true), (13, true), (14, true)] (by kernel_rfl) (by kernel_rfl) (by exact (by exact splitRow 3 1 rfl rfl splitNil)) ?_
  dsimp only [List.eraseIdx]
  refine AM.op rfl (O.move rfl rfl) rfl rfl rfl ?_
  refine AM.op rfl (O.move rfl rfl) rfl rfl rfl ?_
  refine AM.op rfl (O.shlK 4 16 rfl rfl rfl rfl (by rfl) (by exact wU8 (by omega))) rfl rfl rfl ?_
  refine AM.op rfl (O.move rfl rfl) rfl rfl rfl ?_
  refine AM.op rfl (O.or_ rfl rfl rfl (orU8 4 (m := 16) (by decide) (by omega) (by omega))) rfl rfl rfl ?_
  refine AM.op rfl (OpW.frz (O.buildSlice rfl rfl rfl (by rfl) (by rfl) (by rfl) (by rfl)) (by (unfold maxLen; omega))) rfl rfl rfl ?_
  refine AM.op rfl (O.move rfl rfl) rfl rfl rfl ?_
  refine AM.op rfl (O.move rfl rfl) rfl rfl rfl ?_
  refine AM.op rfl (O.fieldAddr rfl rfl) rfl rfl rfl ?_
  refine AM.op rfl (O.load rfl rfl (by repeat (exact List.Mem.head _)) (by rfl)) rfl rfl rfl ?_
  refine AM.main _ rfl (fun w0 R0 => ?_)
  (refine AO.append' (i := 0) rfl rfl rfl rfl (by rfl) (by rfl) rfl rfl rfl (by exact SrcA.ro TyD.ax (by rfl) (Nat.le_of_ble_eq_true rfl)) (by rfl) (by (unfold maxLen; omega)) (by omega) (by (dsimp only [List.set, List.append, List.cons_append, List.nil_append, roB_cells, roI_cells, roO_cells, splice, ofConst, AV.cells, List.map, List.map_cons, List.map_nil, List.take, List.drop, Nat.zero_add, Nat.add_zero, Nat.reduceAdd, Nat.reduceMul, Nat.zero_mul, Value.cells, List.toList_toArray, zerosA, List.replicate, List.flatten, List.append_nil]; done)) (fun _ => by (dsimp only [List.set]; done)) ?_)
  intro V5 hV5
  refine AM.ok ?_
  dsimp only [putE]
  refine AM.main _ rfl (fun w0 R0 => ?_)
  (refine AO.append' (i := 0) rfl rfl rfl rfl (by rfl) (by rfl) rfl rfl rfl (by exact SrcA.ro TyD.ax (by (simp; done)) (Nat.le_of_ble_eq_true rfl)) (by (simp [AV.cells, AV.one, *]; done)) (by (unfold maxLen; omega)) (by omega) (by (dsimp only [List.set, List.append, List.cons_append, List.nil_append, roB_cells, roI_cells, roO_cells, splice, ofConst, AV.cells, List.map, List.map_cons, List.map_nil, List.take, List.drop, Nat.zero_add, Nat.add_zero, Nat.reduceAdd, Nat.reduceMul, Nat.zero_mul, Value.cells, List.toList_toArray, zerosA, List.replicate, List.flatten, List.append_nil]; done)) (fun _ => by (dsimp only [List.set]; done)) ?_)
  intro V6 hV6
  refine AM.ok ?_
  dsimp only [putE]
  refine AM.main _ rfl (fun w0 R0 => ?_)
  (refine AO.append' (i := 0) rfl rfl rfl rfl (by rfl) (by rfl) rfl rfl rfl (by exact SrcA.ro TyD.ax (by (simp; done)) (Nat.le_of_ble_eq_true rfl)) (by (simp [AV.cells, AV.one, *]; done)) (by (unfold maxLen; omega)) (by omega) (by (dsimp only [List.set, List.append, List.cons_append, List.nil_append, roB_cells, roI_cells, roO_cells, splice, ofConst, AV.cells, List.map, List.map_cons, List.map_nil, List.take, List.drop, Nat.zero_add, Nat.add_zero, Nat.reduceAdd, Nat.reduceMul, Nat.zero_mul, Value.cells, List.toList_toArray, zerosA, List.replicate, List.flatten, List.append_nil]; done)) (fun _ => by (dsimp only [List.set]; done)) ?_)
  intro V7 hV7
  refine AM.ok ?_
  dsimp only [putE]
  refine AM.main _ rfl (fun w0 R0 => ?_)
  (refine AO.append' (i := 0) rfl rfl rfl rfl (by rfl) (by rfl) rfl rfl rfl (by exact SrcA.ro TyD.ax (by (simp; done)) (Nat.le_of_ble_eq_true rfl)) (by (simp [AV.cells, AV.one, *]; done)) (by (unfold maxLen; omega)) (by omega) (by (dsimp only [List.set, List.append, List.cons_append, List.nil_append, roB_cells, roI_cells, roO_cells, splice, ofConst, AV.cells, List.map, List.map_cons, List.map_nil, List.take, List.drop, Nat.zero_add, Nat.add_zero, Nat.reduceAdd, Nat.reduceMul, Nat.zero_mul, Value.cells, List.toList_toArray, zerosA, List.replicate, List.flatten, List.append_nil]; done)) (fun _ => by (dsimp only [List.set]; done)) ?_)
  intro V8 hV8
  refine AM.ok ?_
  dsimp only [putE]
  refine AM.main _ rfl (fun w0 R0 => ?_)
  refine AO.op (O.assign rfl rfl) rfl rfl rfl ?_
  refine AM.ok ?_
  dsimp only [putE]
  refine AM.nil ?_
  dsimp only [List.cons_append, List.nil_append]
  refine AQ.thenN ?_
  refine AW.region ?_
  refine AO.op (O.fieldAddr rfl rfl) rfl rfl rfl ?_
  refine AO.op (O.load rfl rfl (by repeat (first | exact List.Mem.head _ | refine List.Mem.tail _ ?_)) (by rfl)) rfl rfl rfl ?_
  refine AO.op (O.assign rfl rfl) rfl rfl rfl ?_
  refine AO.nil ?_
  refine AQ.blockN ?_
  refine AQ.thenN ?_
  refine AW.region ?_
  refine AO.op (O.add rfl rfl rfl (by exact wI64 (by omega))) rfl rfl rfl ?_
  refine AO.op (O.move rfl rfl) rfl rfl rfl ?_
  refine AO.nil ?_
  refine AQ.loopKN _ _ _ (by omega) (⟨k + 1, _, by omega, ‹_›, rfl, by rw [hlast], by rw [hsc, hsl]⟩) (by repeat (first | exact envNil | refine envCons rfl ?_)) (by repeat (first | exact envNil | refine envCons rfl ?_)) (by repeat (first | exact subPnil | refine subPcons 0 rfl ?_ | refine subPcons 1 rfl ?_))
 ·skip
  obtain rfl : k = m.opts.length := by omega
  have hre : raw m = rawTo m m.opts.length ++ (if m.pay = [] then [] else 255 :: m.pay) := raw_end m
  refine AW.exit ?_
  refine AQ.thenX ?_
  refine AQ.loopX ?_
  refine AQ.blockX rfl ?_
  refine AQ.thenN ?_
  refine AW.seq ?_
  refine AW.seq ?_
  refine AW.region ?_
  refine AO.op (O.fieldAddr rfl rfl) rfl rfl rfl ?_
  refine AO.op (O.load rfl rfl (by repeat (first | exact List.Mem.head _ | refine List.Mem.tail _ ?_)) (by rfl)) rfl rfl rfl ?_
  refine AO.op (O.lenR rfl rfl) rfl rfl rfl ?_
  refine AO.op (O.gtr rfl rfl rfl (by rfl)) rfl rfl rfl ?_
  refine AO.nil ?_
  refine AQ.thenN ?_
  refine AW.split rfl (fun h5 => ?_) (fun h5 => ?_) <;> (try simp only [decide_eq_true_eq, decide_eq_false_iff_not, beq_iff_eq, beq_eq_false_iff_ne, bne_iff_ne, bne_eq_false_iff_eq, Bool.not_eq_true', Bool.not_eq_false', Bool.not_eq_true, Bool.not_eq_false, ne_eq, Int.not_lt, Int.not_le, Bool.and_eq_true, Bool.or_eq_true, Bool.or_eq_false_iff, Bool.and_eq_false_imp, strOf_toList, Decidable.not_not] at h5)
  ·skip
   rw [if_neg (fun e => by rw [e] at h5; simp at h5)] at hre
   refine AW.regionM [(0, false), (1, false), (3, false), (4, false), (2, true), (5, true), (6, true)] (by kernel_rfl) (by kernel_rfl) (by exact (by exact splitRow 3 0 rfl rfl splitNil)) ?_
   dsimp only [List.eraseIdx]
   refine AM.op rfl (O.move rfl rfl) rfl rfl rfl ?_
   refine AM.op rfl (OpW.frz (O.buildSlice rfl rfl rfl (by rfl) (by rfl) (by rfl) (by rfl)) (by (unfold maxLen; omega))) rfl rfl rfl ?_
   refine AM.op rfl (O.fieldAddr rfl rfl) rfl rfl rfl ?_
   refine AM.op rfl (O.load rfl rfl (by repeat (exact List.Mem.head _)) (by rfl)) rfl rfl rfl ?_
   refine AM.main _ rfl (fun w0 R0 => ?_)
   (refine AO.append' (i := 0) rfl rfl rfl rfl (by rfl) (by rfl) rfl rfl rfl (by exact SrcA.ro TyD.ax (by rfl) (Nat.le_of_ble_eq_true rfl)) (by rfl) (by (unfold maxLen; omega)) (by omega) (by (dsimp only [List.set, List.append, List.cons_append, List.nil_append, roB_cells, roI_cells, roO_cells, splice, ofConst, AV.cells, List.map, List.map_cons, List.map_nil, List.take, List.drop, Nat.zero_add, Nat.add_zero, Nat.reduceAdd, Nat.reduceMul, Nat.zero_mul, Value.cells, List.toList_toArray, zerosA, List.replicate, List.flatten, List.append_nil]; done)) (fun _ => by (dsimp only [List.set]; done)) ?_)
   intro V9 hV9
   refine AM.ok ?_
   dsimp only [putE]
   refine AM.main _ rfl (fun w0 R0 => ?_)
   (refine AO.append' (i := 0) rfl rfl rfl rfl (by rfl) (by rfl) rfl rfl rfl (by exact SrcA.ro TyD.ax (by (simp; done)) (Nat.le_of_ble_eq_true rfl)) (by (simp [AV.cells, AV.one, *]; done)) (by (unfold maxLen; omega)) (by omega) (by (dsimp only [List.set, List.append, List.cons_append, List.nil_append, roB_cells, roI_cells, roO_cells, splice, ofConst, AV.cells, List.map, List.map_cons, List.map_nil, List.take, List.drop, Nat.zero_add, Nat.add_zero, Nat.reduceAdd, Nat.reduceMul, Nat.zero_mul, Value.cells, List.toList_toArray, zerosA, List.replicate, List.flatten, List.append_nil]; done)) (fun _ => by (dsimp only [List.set]; done)) ?_)
   intro V10 hV10
   refine AM.ok ?_
   dsimp only [putE]
   refine AM.main _ rfl (fun w0 R0 => ?_)
   refine AO.op (O.assign rfl rfl) rfl rfl rfl ?_
   refine AM.ok ?_
   dsimp only [putE]
   refine AM.nil ?_
   dsimp only [List.cons_append, List.nil_append]
   refine AQ.thenN ?_
   refine AW.seq ?_
   refine AW.region ?_
   refine AO.op (O.move rfl rfl) rfl rfl rfl ?_
   refine AO.op (O.assign rfl rfl) rfl rfl rfl ?_
   refine AO.nil ?_
   refine AQ.thenN ?_
   refine AW.ret ?_
   refine AQ.g ?_
   refine G.freezeRow 0 rfl [2] (by repeat (first | exact frNil | refine frCons rfl ?_)) ?_
   refine AQ.u ?_
   try dsimp only [List.map, List.eraseIdx, List.cons_append, List.nil_append]
   refine AQ.ret1 rfl rfl ⟨_, List.nil_sublist _, .nil⟩ (⟨roB_of (by rw [hre]; simp only [List.length_append, List.length_cons]; omega) (by rw [hre]; simp [bytesA]), rfl⟩)
  ·skip
   rw [if_pos (List.eq_nil_of_length_eq_zero (by omega)), List.append_nil] at hre
   refine AW.skip ?_
   refine AQ.thenN ?_
   refine AW.seq ?_
   refine AW.region ?_
   refine AO.op (O.move rfl rfl) rfl rfl rfl ?_
   refine AO.op (O.assign rfl rfl) rfl rfl rfl ?_
   refine AO.nil ?_
   refine AQ.thenN ?_
   refine AW.ret ?_
   refine AQ.g ?_
   refine G.freezeRow 0 rfl [2] (by repeat (first | exact frNil | refine frCons rfl ?_)) ?_
   refine AQ.u ?_
   try dsimp only [List.map, List.eraseIdx, List.cons_append, List.nil_append]
   refine AQ.ret1 rfl rfl ⟨_, List.nil_sublist _, .nil⟩ (⟨by rw [hre]; rfl, rfl⟩)
end Go.Proofs.YtoonnnifelnaiaaGreatDoor.By

namespace Go.Proofs.YtoonnnifelnaiaaGreatDoor.By
open Go.RowKit L A
set_option linter.unusedVariables false
set_option maxRecDepth 20000
set_option linter.unusedSimpArgs false
attribute [local irreducible] AW AQ AO

end Go.Proofs.YtoonnnifelnaiaaGreatDoor.By

namespace Go.Proofs.YtoonnnifelnaiaaGreatDoor.By
open Go.RowKit L A
set_option linter.unusedVariables false
set_option maxRecDepth 20000
set_option linter.unusedSimpArgs false
attribute [local irreducible] AW AQ AO

def encR (m : Msg) : List UInt8 × Int := if ValM m then (raw m, 0) else ([], 1)
set_option maxRecDepth 20000 in
set_option maxHeartbeats 4000000 in
theorem valid_fn (m : Msg) : Sp Tryz.prog 53 [aggM m] [] (Is (.val (.bool (decide (ValM m))))) := by
 refine Sp.enter Tryz.func53 rfl _ Tryz.ntmps53 rfl (fun w0 R0 => ?_)
 refine AW.seq ?_
 refine AW.region ?_
 refine AO.opB (O.box rfl rfl rfl rfl rfl) rfl rfl rfl ?_
 intro B1
 refine AO.op (O.assign rfl rfl) rfl rfl rfl ?_
 refine AO.nil ?_
 refine AQ.thenN ?_
 refine AW.seq ?_
 refine AW.region ?_
 first | (refine AO.op (O.loadRK rfl rfl (by first | exact getO (by omega) (by omega) | (dsimp only [List.take, List.drop]; rfl)) (by rfl)) rfl rfl rfl ?_) | (refine AO.op (O.loadK rfl rfl (by repeat (first | exact List.Mem.head _ | refine List.Mem.tail _ ?_)) (by first | exact getO (by omega) (by omega) | (dsimp only [List.take, List.drop]; rfl)) (by rfl)) rfl rfl rfl ?_) | (refine AO.op (O.loadK rfl rfl (by repeat (first | exact List.Mem.head _ | refine List.Mem.tail _ ?_)) (by first | (dsimp only [List.set, List.append, List.cons_append, List.nil_append, roB_cells, roI_cells, roO_cells, splice, ofConst, AV.cells, List.map, List.map_cons, List.map_nil, List.take, List.drop, Nat.zero_add, Nat.add_zero, Nat.reduceAdd, Nat.reduceMul, Nat.zero_mul, Value.cells, List.toList_toArray, zerosA, List.replicate, List.flatten, List.append_nil]; rfl) | (dsimp only [List.set, List.append, List.cons_append, List.nil_append, roB_cells, roI_cells, roO_cells, splice, ofConst, AV.cells, List.map, List.map_cons, List.map_nil, List.take, List.drop, Nat.zero_add, Nat.add_zero, Nat.reduceAdd, Nat.reduceMul, Nat.zero_mul, Value.cells, List.toList_toArray, zerosA, List.replicate, List.flatten, List.append_nil]; done) | rfl) (by rfl)) rfl rfl rfl ?_)
 first | (refine AO.op (O.call rfl Tryz.func84 rfl rfl rfl (sound_fn m)) rfl rfl rfl ?_) | (refine AO.op (O.callC rfl Tryz.func84 rfl rfl rfl (sound_fn m) (by (repeat (first | exact CoeL.nil | refine CoeL.cons Coe.rfl ?_ | refine CoeL.cons Coe.nil ?_ | refine CoeL.cons Coe.unfull ?_ | refine CoeL.cons (Coe.agg ?_) ?_ | refine CoeL.cons (Coe.tup ?_) ?_ | refine CoeL.cons (Coe.ro ?_) ?_)); first | done | fail)) rfl rfl rfl ?_) | (refine AO.op (O.callL rfl Tryz.func84 rfl rfl rfl (by repeat (first | exact List.Mem.head _ | refine List.Mem.tail _ ?_)) (sound_fn m) (by (repeat (first | exact LendL.nil | refine LendL.same ?_ | refine LendL.lend ?_)); first | done | fail)) rfl rfl rfl ?_)
 refine AO.op (O.move rfl rfl) rfl rfl rfl ?_
 first | (refine AO.opG rfl rfl rfl (fun hp => O.loadRK rfl rfl (by first | exact getO (by omega) (by omega) | (dsimp only [List.take, List.drop]; rfl)) (by rfl)) ?_) | (refine AO.opG rfl rfl rfl (fun hp => O.loadK rfl rfl (by repeat (first | exact List.Mem.head _ | refine List.Mem.tail _ ?_)) (by first | exact getO (by omega) (by omega) | (dsimp only [List.take, List.drop]; rfl)) (by rfl)) ?_) | (refine AO.opG rfl rfl rfl (fun hp => O.loadK rfl rfl (by repeat (first | exact List.Mem.head _ | refine List.Mem.tail _ ?_)) (by first | (dsimp only [List.set, List.append, List.cons_append, List.nil_append, roB_cells, roI_cells, roO_cells, splice, ofConst, AV.cells, List.map, List.map_cons, List.map_nil, List.take, List.drop, Nat.zero_add, Nat.add_zero, Nat.reduceAdd, Nat.reduceMul, Nat.zero_mul, Value.cells, List.toList_toArray, zerosA, List.replicate, List.flatten, List.append_nil]; rfl) | (dsimp only [List.set, List.append, List.cons_append, List.nil_append, roB_cells, roI_cells, roO_cells, splice, ofConst, AV.cells, List.map, List.map_cons, List.map_nil, List.take, List.drop, Nat.zero_add, Nat.add_zero, Nat.reduceAdd, Nat.reduceMul, Nat.zero_mul, Value.cells, List.toList_toArray, zerosA, List.replicate, List.flatten, List.append_nil]; done) | rfl) (by rfl)) ?_) | (refine AO.op (O.loadRK rfl rfl (by first | exact getO (by omega) (by omega) | (dsimp only [List.take, List.drop]; rfl)) (by rfl)) rfl rfl rfl ?_) | (refine AO.op (O.loadK rfl rfl (by repeat (first | exact List.Mem.head _ | refine List.Mem.tail _ ?_)) (by first | exact getO (by omega) (by omega) | (dsimp only [List.take, List.drop]; rfl)) (by rfl)) rfl rfl rfl ?_) | (refine AO.op (O.loadK rfl rfl (by repeat (first | exact List.Mem.head _ | refine List.Mem.tail _ ?_)) (by first | (dsimp only [List.set, List.append, List.cons_append, List.nil_append, roB_cells, roI_cells, roO_cells, splice, ofConst, AV.cells, List.map, List.map_cons, List.map_nil, List.take, List.drop, Nat.zero_add, Nat.add_zero, Nat.reduceAdd, Nat.reduceMul, Nat.zero_mul, Value.cells, List.toList_toArray, zerosA, List.replicate, List.flatten, List.append_nil]; rfl) | (dsimp only [List.set, List.append, List.cons_append, List.nil_append, roB_cells, roI_cells, roO_cells, splice, ofConst, AV.cells, List.map, List.map_cons, List.map_nil, List.take, List.drop, Nat.zero_add, Nat.add_zero, Nat.reduceAdd, Nat.reduceMul, Nat.zero_mul, Value.cells, List.toList_toArray, zerosA, List.replicate, List.flatten, List.append_nil]; done) | rfl) (by rfl)) rfl rfl rfl ?_) | (refine AO.no rfl rfl rfl ?_)
 first | (refine AO.opG rfl rfl rfl (fun hp => OpW.force 6 rfl (by first | exact hp | simp_all) (O.call rfl Tryz.func85 rfl rfl rfl (encode_fn m (by simpa using hp)))) ?_) | (refine AO.opG rfl rfl rfl (fun hp => OpW.force 6 rfl (by first | exact hp | simp_all) (O.call rfl Tryz.func85 rfl rfl rfl (encode_fn m hm))) ?_) | (refine AO.opG rfl rfl rfl (fun hp => OpW.force 6 rfl (by first | exact hp | simp_all) (O.callC rfl Tryz.func85 rfl rfl rfl (encode_fn m (by simpa using hp)) (by (repeat (first | exact CoeL.nil | refine CoeL.cons Coe.rfl ?_ | refine CoeL.cons Coe.nil ?_ | refine CoeL.cons Coe.unfull ?_ | refine CoeL.cons (Coe.agg ?_) ?_ | refine CoeL.cons (Coe.tup ?_) ?_ | refine CoeL.cons (Coe.ro ?_) ?_)); first | done | fail))) ?_) | (refine AO.opG rfl rfl rfl (fun hp => OpW.force 6 rfl (by first | exact hp | simp_all) (O.callC rfl Tryz.func85 rfl rfl rfl (encode_fn m hm) (by (repeat (first | exact CoeL.nil | refine CoeL.cons Coe.rfl ?_ | refine CoeL.cons Coe.nil ?_ | refine CoeL.cons Coe.unfull ?_ | refine CoeL.cons (Coe.agg ?_) ?_ | refine CoeL.cons (Coe.tup ?_) ?_ | refine CoeL.cons (Coe.ro ?_) ?_)); first | done | fail))) ?_) | (refine AO.op (O.call rfl Tryz.func85 rfl rfl rfl (encode_fn m (by simpa using hp))) rfl rfl rfl ?_) | (refine AO.op (O.call rfl Tryz.func85 rfl rfl rfl (encode_fn m hm)) rfl rfl rfl ?_) | (refine AO.op (O.callC rfl Tryz.func85 rfl rfl rfl (encode_fn m (by simpa using hp)) (by (repeat (first | exact CoeL.nil | refine CoeL.cons Coe.rfl ?_ | refine CoeL.cons Coe.nil ?_ | refine CoeL.cons Coe.unfull ?_ | refine CoeL.cons (Coe.agg ?_) ?_ | refine CoeL.cons (Coe.tup ?_) ?_ | refine CoeL.cons (Coe.ro ?_) ?_)); first | done | fail)) rfl rfl rfl ?_) | (refine AO.op (O.callC rfl Tryz.func85 rfl rfl rfl (encode_fn m hm) (by (repeat (first | exact CoeL.nil | refine CoeL.cons Coe.rfl ?_ | refine CoeL.cons Coe.nil ?_ | refine CoeL.cons Coe.unfull ?_ | refine CoeL.cons (Coe.agg ?_) ?_ | refine CoeL.cons (Coe.tup ?_) ?_ | refine CoeL.cons (Coe.ro ?_) ?_)); first | done | fail)) rfl rfl rfl ?_) | (refine AO.no rfl rfl rfl ?_)
 first | (refine AO.opG rfl rfl rfl (fun hp => OpW.force 7 rfl (by first | exact hp | simp_all) (O.lenR rfl rfl)) ?_) | (refine AO.opG rfl rfl rfl (fun hp => OpW.force 7 rfl (by first | exact hp | simp_all) (O.lenV rfl rfl)) ?_) | (refine AO.opG rfl rfl rfl (fun hp => OpW.force 7 rfl (by first | exact hp | simp_all) (O.lenRow rfl rfl (by repeat (first | exact List.Mem.head _ | refine List.Mem.tail _ ?_)))) ?_) | (refine AO.opG rfl rfl rfl (fun hp => OpW.force 7 rfl (by first | exact hp | simp_all) (O.lenS rfl rfl)) ?_) | (refine AO.op (O.lenR rfl rfl) rfl rfl rfl ?_) | (refine AO.op (O.lenV rfl rfl) rfl rfl rfl ?_) | (refine AO.op (O.lenRow rfl rfl (by repeat (first | exact List.Mem.head _ | refine List.Mem.tail _ ?_))) rfl rfl rfl ?_) | (refine AO.op (O.lenS rfl rfl) rfl rfl rfl ?_) | (refine AO.no rfl rfl rfl ?_)
 first | (refine AO.opG rfl rfl rfl (fun hp => OpW.force 8 rfl (by first | exact hp | simp_all) (O.leq rfl rfl rfl (by first | exact bTrue (by omega) | exact bFalse (by omega) | assumption | rfl))) ?_) | (refine AO.op (O.leq rfl rfl rfl (by first | exact bTrue (by omega) | exact bFalse (by omega) | assumption | rfl)) rfl rfl rfl ?_) | (refine AO.no rfl rfl rfl ?_)
 first | (refine AO.op (O.pickAnd rfl rfl rfl rfl (fun h => by first | exact h | simp_all)) rfl rfl rfl ?_) | (refine AO.op (O.pickF rfl rfl rfl) rfl rfl rfl ?_) | (refine AO.op (O.pickT rfl rfl rfl) rfl rfl rfl ?_)
 refine AO.op (O.assign rfl rfl) rfl rfl rfl ?_
 refine AO.nil ?_
 refine AQ.thenN ?_
 refine AW.ret ?_
 have e2 : decide (ValM m) = (decide (OkM m) && decide (((raw m).length : Int) ≤ 4096)) := dec_eq (by simp [ValM])
 refine AQ.ret1 rfl rfl ⟨_, List.nil_sublist _, .nil⟩ (⟨congrArg (fun z => AV.val (.bool z)) e2.symm, rfl⟩)
end Go.Proofs.YtoonnnifelnaiaaGreatDoor.By

namespace Go.Proofs.YtoonnnifelnaiaaGreatDoor.A
open Go.RowKit L
set_option linter.unusedVariables false
set_option maxRecDepth 20000
set_option linter.unusedSimpArgs false
section
variable {Γ : Cx} {P : Program} {Q : Exit → Act → World → Prop} {E : Env} {H : List HE}
theorem G.freezeK {X : Act → World → Prop} (i : Nat) {v : Value} {T sz n : Nat} {xs : List AV} (hi : H[i]? = some (.row v T sz n xs))
  (k : ∀ R a W, RelS Γ R (H.eraseIdx i) W → RelA Γ.N R W E a → RelV R W (.ro false n xs) v → X a W) : G Γ E H X := fun R a W hs ha => by
 have hmem := List.mem_of_getElem? hi
 obtain ⟨hlt, he⟩ := List.getElem?_eq_some_iff.1 hi
 have hsub : (H.eraseIdx i).Sublist H := List.eraseIdx_sublist _ _
 have hdis : ∀ f ∈ H.eraseIdx i, ∀ b, f.foot b → ¬ (HE.row v T sz n xs).foot b := fun f hf b hb hb' => by
  obtain ⟨j, hj, rfl⟩ := List.getElem_of_mem hf
  rw [List.getElem_eraseIdx] at hb
  rw [List.length_eraseIdx, if_pos hlt] at hj
  split at hb
  ·exact (List.pairwise_iff_getElem.1 hs.disj j i (by omega) hlt (by omega)) b hb (by rw [he]; exact hb')
  ·exact (List.pairwise_iff_getElem.1 hs.disj i (j + 1) hlt (by omega) (by omega)) b (by rw [he]; exact hb') hb
 have hRS : ∀ b, R b → R b ∨ (HE.row v T sz n xs).foot b := fun b h => .inl h
 obtain ⟨us, hown, hr⟩ := hs.ok _ hmem
 refine k (fun b => R b ∨ (HE.row v T sz n xs).foot b) a W ⟨hs.mods, ?_, fun b hb => .inl (hs.rsub b hb), ?_, fun e he => HE.ok_mono hRS (fun _ _ => rfl) (Nat.le_refl _) (fun _ _ => rfl) (hs.ok e (hsub.subset he)), ?_, hs.disj.sublist hsub⟩ (ha.mono hRS (fun _ _ => rfl)) ?_
 ·rintro b (hb | hb)
  ·exact hs.rlt b hb
  ·exact HE.ok_lt (hs.ok _ hmem) hb
 ·rintro b (hb | hb)
  ·exact hs.rnew b hb
  ·exact .inr (hs.own _ hmem b hb).1
 ·intro e he b hb
  refine ⟨(hs.own e (hsub.subset he) b hb).1, ?_⟩
  rintro (h | h)
  ·exact (hs.own e (hsub.subset he) b hb).2 h
  ·exact hdis e he b hb h
 ·have hr' := hr.mono hRS (W' := W) (fun _ _ => rfl)
  rcases hown.2 with ⟨rfl, rfl⟩ | ⟨g, cap, cur, rfl, hbg, hg, h1, h2, h3, h4⟩
  ·have : xs = [] := List.eq_nil_of_length_eq_zero (by rw [← hr.1, hown.1]; simp)
   subst this
   exact .emp _ _ _ (fun h => by cases h) (Nat.zero_le _)
  ·refine .ro false n xs g 0 cap (fun j => us.getD j undef) (.inr rfl) (fun j hj => ?_) (fun j hj => hr'.2 j hj) h1 h2 (fun h => by cases h)
   have hj' : j < us.length := by rw [hr.1]; exact hj
   have := hown.cells (g := g) rfl j us[j] (by simp [hj'])
   rw [addr_add] at this
   rw [this]
   simp [List.getD, hj']
theorem G.freezeCell {X : Act → World → Prop} (i j c : Nat) {v : Value} {T sz n : Nat} {xs : List AV} {b T' room : Nat} {ys : List AV} (hi : H[i]? = some (.row v T sz n xs)) (hj : (H.eraseIdx i)[j]? = some (.blk b T' room ys)) (hc : ys[c]? = some (.val v))
  (k : G Γ E ((H.eraseIdx i).set j (.blk b T' room (ys.set c (.ro false n xs)))) X) : G Γ E H X := G.freezeK i hi fun R a W hs ha hv => by
 obtain ⟨us, cs, h1, h2, h3, h4⟩ := hs.ok _ (List.mem_of_getElem? hj)
 obtain ⟨u, hu1, hu2⟩ := h4.get hc
 have hu3 := hu2.val_inv
 subst hu3
 refine k R a W (hs.setSame hj (fun b hb => hb) ⟨us, cs, h1, h2, by rw [List.length_set]; exact h3, ?_⟩) ha
 have h5 := h4.set c hv
 rwa [show us.set c u = us from List.ext_getElem? fun q => by
  rcases Nat.decEq c q with h | h
  ·rw [List.getElem?_set_ne h]
  ·subst h; rw [List.getElem?_set_self (List.getElem?_eq_some_iff.1 hu1).1, hu1]] at h5
end
end Go.Proofs.YtoonnnifelnaiaaGreatDoor.A

namespace Go.Proofs.YtoonnnifelnaiaaGreatDoor.A
open Go.RowKit L
set_option linter.unusedVariables false
set_option maxRecDepth 20000
set_option linter.unusedSimpArgs false

section
variable {P : Program} {ops : Array Oper} {N : Nat}

/-- The state on the way. -/
structure MJ (P : Program) (Γ : Cx) (ops : Array Oper) (Hs : List HE) (K : Env → List HE → Prop) (ord : List (Nat × Bool)) (late : List Nat) (listed : Array Bool) (A : Act) (W : World) (pre ms : List (Nat × Bool)) (Pd : List Nat) (E : Env) (H : List HE) (R : Nat → Prop) : Prop where
 size : listed.size = ops.size
 closed : Closed ops listed
 part : ∀ i, i < ops.size → (listed.getD i false = false ↔ i ∈ Pd ∨ i ∈ ms.map Prod.fst ∨ i ∈ late)
 ord : ord = pre ++ ms
 pdp : ∀ i ∈ Pd, (i, false) ∈ pre
 am : AM P Γ.N ops Hs K ms E H
 pend : ∀ i ∈ Pd, ∃ o d v, ops[i]? = some o ∧ o.dst = some d ∧ d < Γ.N ∧ look E d = some v ∧ OpF P Γ.N ops o (rst E (o.looksAt ops)) Hs (Is v)
 rels : RelS Γ R (H ++ Hs) W
 defers : A.defers = []
 tmps : A.tmps.size = Γ.N
 act : ∀ t v, look E t = some v → (∀ i ∈ Pd, ∀ o, ops[i]? = some o → o.dst ≠ some t) → RelV R W v (A.eval (.tmp t))

variable {Γ : Cx} {Hs : List HE} {K : Env → List HE → Prop} {ord : List (Nat × Bool)} {late : List Nat}

/-- What reads is pending as soon as it may run. -/
theorem MJ.absorb {listed : Array Bool} {A : Act} {W : World} {R : Nat → Prop} (hok : ordPairs ops (ancs ops.toList []) ord = true) : ∀ (ms pre : List (Nat × Bool)) (Pd : List Nat) (E : Env) (H : List HE), MJ P Γ ops Hs K ord late listed A W pre ms Pd E H R →
  ∃ pre' ms' Pd' E', MJ P Γ ops Hs K ord late listed A W pre' ms' Pd' E' H R ∧ (ms' = [] ∨ ∃ m r, ms' = (m, true) :: r)
 | [], pre, Pd, E, H, h => ⟨pre, [], Pd, E, h, .inl rfl⟩
 | (m, true) :: r, pre, Pd, E, H, h => ⟨pre, _, Pd, E, h, .inr ⟨m, r, rfl⟩⟩
 | (j, false) :: r, pre, Pd, E, H, h => by
  obtain ⟨o, d, v, ho, hd, hN, hop, ham⟩ := h.am
  have hord := h.ord
  have hq := ordPairs_app (pre := pre) (r := (j, false) :: r) (by rw [← hord]; exact hok)
  have hself : d ∉ o.looksAt ops := by
   have := hq.1
   rw [ordPairs] at this
   simp only [Bool.and_eq_true, ho, hd, Bool.false_or] at this
   simpa using this.1.1
  have hp : ∀ i ∈ Pd, ∀ oi, ops[i]? = some oi → d ∉ oi.looksAt ops ∧ oi.dst ≠ some d := fun i hi oi hoi => by
   have := pairOk (hq.2 _ (h.pdp i hi) (j, false) (List.mem_cons_self ..)) hoi ho
   obtain ⟨d', h1, h2, h3⟩ := this.flt rfl
   rw [hd] at h1
   cases h1
   exact ⟨h2, h3⟩
  refine MJ.absorb hok r (pre ++ [(j, false)]) (j :: Pd) ((d, v) :: E) H ⟨h.size, h.closed, fun i hi => ?_, by rw [hord]; simp, fun i hi => ?_, ham, fun i hi => ?_, h.rels, h.defers, h.tmps, fun t x ht hpd => ?_⟩
  ·rw [h.part i hi]
   simp only [List.map_cons, List.mem_cons]
   constructor
   ·rintro (h | (h | h) | h)
    ·exact .inl (.inr h)
    ·exact .inl (.inl h)
    ·exact .inr (.inl h)
    ·exact .inr (.inr h)
   ·rintro ((h | h) | h | h)
    ·exact .inr (.inl (.inl h))
    ·exact .inl h
    ·exact .inr (.inl (.inr h))
    ·exact .inr (.inr h)
  ·rcases List.mem_cons.1 hi with rfl | hi
   ·simp
   ·exact List.mem_append_left _ (h.pdp i hi)
  ·rcases List.mem_cons.1 hi with rfl | hi
   ·exact ⟨o, d, v, ho, hd, hN, look_here, by rw [rst_skip hself]; exact hop⟩
   ·obtain ⟨oi, di, vi, h1, h2, h3, h4, h5⟩ := h.pend i hi
    obtain ⟨h6, h7⟩ := hp i hi oi h1
    refine ⟨oi, di, vi, h1, h2, h3, ?_, by rw [rst_skip h6]; exact h5⟩
    rw [look_skip (fun e => h7 (by rw [h2, e]))]; exact h4
  ·have hne : d ≠ t := fun e => hpd j (List.mem_cons_self ..) o ho (by rw [hd, e])
   rw [look_skip hne] at ht
   exact h.act t x ht fun i hi => hpd i (List.mem_cons_of_mem _ hi)

theorem MJ.reads {listed : Array Bool} {A : Act} {W : World} {R : Nat → Prop} {pre ms : List (Nat × Bool)} {Pd : List Nat} {E : Env} {H : List HE} (hok : ordPairs ops (ancs ops.toList []) ord = true) (h : MJ P Γ ops Hs K ord late listed A W pre ms Pd E H R)
  {i : Nat} {b : Bool} {o : Oper} (ho : ops[i]? = some o) (hdeps : ∀ e ∈ o.after, Region.binds .any e = true → listed.getD e.on false = true) (hi : (i, b) ∈ pre ∧ i ∈ Pd ∧ b = false ∨ ∃ r, ms = (i, b) :: r) : RelA Γ.N R W (rst E (o.looksAt ops)) A := by
 refine ⟨h.defers, h.tmps, fun t v ht => ?_⟩
 obtain ⟨htl, ht⟩ := look_rst ht
 refine h.act t v ht fun k hk ok hok' hdk => ?_
 have hkp := h.pdp k hk
 have hkf : listed.getD k false = false := (h.part k (Array.getElem?_eq_some_iff.1 hok').1).2 (.inl hk)
 have direct : ordPair ops (ancs ops.toList []) k false i b = true → False := fun hp => by
  obtain ⟨e, he, hb, hon⟩ := (pairOk hp hok' ho).reads t hdk htl
  have := hdeps e he hb
  rw [hon, hkf] at this; cases this
 rcases hi with ⟨hip, hiP, rfl⟩ | ⟨r, hms⟩
 ·-- both ahead
  obtain ⟨p1, p2, hp12⟩ := List.append_of_mem hkp
  have hord := h.ord
  rw [hp12, List.append_assoc] at hord
  rw [hp12] at hip
  rcases List.mem_append.1 hip with hip | hip
  ·-- i ahead of k
   have hq := ordPairs_app (pre := p1) (by rw [← hord]; exact hok)
   have := pairOk (hq.2 _ hip (k, false) (List.mem_cons_self ..)) ho hok'
   obtain ⟨d', h1, h2, -⟩ := this.flt rfl
   rw [hdk] at h1; cases h1
   exact h2 htl
  ·rcases List.mem_cons.1 hip with he | hip
   ·cases he
    -- itself
    have hq := (ordPairs_app (pre := p1) (by rw [← hord]; exact hok)).1
    rw [List.cons_append, ordPairs] at hq
    simp only [Bool.and_eq_true] at hq
    obtain rfl : o = ok := by rw [ho] at hok'; exact Option.some.inj hok'
    have := hq.1.1
    rw [ho] at this
    simp only [hdk, Bool.false_or] at this
    simp at this
    exact this htl
   ·rw [show p1 ++ ((k, false) :: p2 ++ ms) = (p1 ++ [(k, false)]) ++ (p2 ++ ms) by simp] at hord
    have hq := ordPairs_app (pre := p1 ++ [(k, false)]) (by rw [← hord]; exact hok)
    exact direct (hq.2 (k, false) (by simp) (i, false) (List.mem_append_left _ hip))
 ·have hq := ordPairs_app (pre := pre) (r := ms) (by rw [← h.ord]; exact hok)
  exact direct (hq.2 _ hkp (i, b) (by rw [hms]; exact List.mem_cons_self ..))

/-- One stage. -/
theorem MJ.stage {Q : Exit → Act → World → Prop} (hback : ∀ i o, ops[i]? = some o → ∀ e ∈ o.after, Region.binds .any e = true → e.on < i) (hpairs : ordPairs ops (ancs ops.toList []) ord = true) (hlt : ∀ q ∈ ord, q.1 < ops.size)
  (hlate : ∀ j ∈ late, ∀ q ∈ ord, q.1 ∈ (ancs ops.toList []).getD j [])
  (hfin : ∀ (listed : Array Bool) (A : Act) (W : World) (E : Env) (H : List HE) (R : Nat → Prop), listed.size = ops.size → Closed ops listed → (∀ i, i < ops.size → (listed.getD i false = false ↔ i ∈ late)) → RelS Γ R (H ++ Hs) W → RelA Γ.N R W E A → K E H → wpAny P .any ops Q (listed.toList.count false) listed A W) :
  ∀ (fuel : Nat) (listed : Array Bool) (A : Act) (W : World) (pre ms : List (Nat × Bool)) (Pd : List Nat) (E : Env) (H : List HE) (R : Nat → Prop), fuel = listed.toList.count false →
   MJ P Γ ops Hs K ord late listed A W pre ms Pd E H R → (ms = [] ∨ ∃ m r, ms = (m, true) :: r) → wpAny P .any ops Q fuel listed A W := by
 intro fuel
 induction fuel with
 | zero =>
  intro listed A W pre ms Pd E H R hc hI hhd
  have hlist : ∀ i, i < ops.size → listed.getD i false = true := by
   intro i hi
   have hi' : i < listed.size := by rw [hI.size]; exact hi
   cases hb : listed.getD i false with
   | true => rfl
   | false =>
    exfalso
    have hm : false ∈ listed.toList := by
     rw [← hb]; simp [Array.getD, hi']
    have := List.count_pos_iff.2 hm
    omega
  have hms : ms = [] := by
   rcases hhd with h | ⟨m, r, h⟩
   ·exact h
   ·have h1 := hlt (m, true) (by rw [hI.ord, h]; simp)
    have := (hI.part m h1).2 (.inr (.inl (by rw [h]; simp)))
    rw [hlist m h1] at this; cases this
  have hPd : Pd = [] := by
   rw [List.eq_nil_iff_forall_not_mem]
   intro i hi
   have h1 := hlt (i, false) (by rw [hI.ord]; exact List.mem_append_left _ (hI.pdp i hi))
   have := (hI.part i h1).2 (.inl hi)
   rw [hlist i h1] at this; cases this
  subst hms
  subst hPd
  rw [hc]
  exact hfin listed A W E H R hI.size hI.closed (fun i hi => by rw [hI.part i hi]; simp) hI.rels ⟨hI.defers, hI.tmps, fun t v ht => hI.act t v ht fun i hi => (by cases hi)⟩ hI.am
 | succ fuel ih =>
  intro listed A W pre ms Pd E H R hc hI hhd
  by_cases hemp : ms = [] ∧ Pd = []
  ·obtain ⟨rfl, rfl⟩ := hemp
   rw [hc]
   exact hfin listed A W E H R hI.size hI.closed (fun i hi => by rw [hI.part i hi]; simp) hI.rels ⟨hI.defers, hI.tmps, fun t v ht => hI.act t v ht fun i hi => (by cases hi)⟩ hI.am
  have hun : ∃ q ∈ ord, listed.getD q.1 false = false := by
   rcases hhd with h | ⟨m, r, h⟩
   ·cases Pd with
    | nil => exact absurd ⟨h, rfl⟩ hemp
    | cons p Pd =>
     have h1 : (p, false) ∈ ord := by rw [hI.ord]; exact List.mem_append_left _ (hI.pdp p (List.mem_cons_self ..))
     exact ⟨_, h1, (hI.part p (hlt _ h1)).2 (.inl (List.mem_cons_self ..))⟩
   ·have h1 : (m, true) ∈ ord := by rw [hI.ord, h]; simp
    exact ⟨_, h1, (hI.part m (hlt _ h1)).2 (.inr (.inl (by rw [h]; simp)))⟩
  have hne : ∃ i, i ∈ Region.ready .any ops listed := by
   have hex : ∃ i, i < ops.size ∧ listed.getD i false = false := by
    have hpos : 0 < listed.toList.count false := by omega
    obtain ⟨i, hi, hf⟩ := List.getElem_of_mem (List.count_pos_iff.1 hpos)
    have hi' : i < listed.size := by simpa using hi
    exact ⟨i, by rw [← hI.size]; exact hi', by simpa [Array.getD, hi'] using hf⟩
   obtain ⟨i, ⟨hi, hf⟩, hmin⟩ : ∃ i, (i < ops.size ∧ listed.getD i false = false) ∧ ∀ j, j < i → ¬ (j < ops.size ∧ listed.getD j false = false) := by
    obtain ⟨i, h⟩ := hex
    exact least ⟨i, h⟩
   have hio : ops[i]? = some ops[i] := by simp [hi]
   refine ⟨i, mem_ready.2 ⟨by rw [getD_tf (by rw [hI.size]; exact hi)]; exact hf, _, hio, fun e he hb => ?_⟩⟩
   have := hback i _ hio e he hb
   cases hb2 : listed.getD e.on false with
   | true => rfl
   | false => exact absurd ⟨by omega, hb2⟩ (hmin e.on this)
  refine ⟨fun e => (by obtain ⟨i, hi⟩ := hne; rw [e] at hi; cases hi), fun i hi => ?_⟩
  obtain ⟨h0, o, ho, hdeps⟩ := mem_ready.1 hi
  have hio : i < ops.size := (Array.getElem?_eq_some_iff.1 ho).1
  have hf : listed.getD i false = false := by rw [← getD_tf (by rw [hI.size]; exact hio)]; exact h0
  have hil : i < listed.size := by rw [hI.size]; exact hio
  have hanc : ∀ j, j ∈ (ancs ops.toList []).getD i [] → listed.getD j false = true := fun j hj => anc_listed hI.closed hback i o ho hdeps j hj
  have hcl := closed_set hI.closed ho hil hdeps
  have hcnt : fuel = (listed.setIfInBounds i true).toList.count false := by
   have hcs := count_set_true listed.toList i (by simpa using hil) (by simpa [Array.getD, hil] using hf)
   simp only [Array.toList_setIfInBounds]
   omega
  have hgd : ∀ k, k ≠ i → (listed.setIfInBounds i true).getD k false = listed.getD k false := fun k hk => getD_set_ne false (Ne.symm hk)
  have hgi : (listed.setIfInBounds i true).getD i false = true := by simp [Array.getD, hil]
  have hsz : (listed.setIfInBounds i true).size = ops.size := by simpa using hI.size
  have hnl : i ∉ late := fun h => by
   obtain ⟨q, hq, hqf⟩ := hun
   have := hanc q.1 (hlate i h q hq)
   rw [hqf] at this; cases this
  rcases (hI.part i hio).1 hf with hPd | hms | hlt'
  ·-- one that reads
   obtain ⟨o', d, v, ho', hd, hN, hlk, hop⟩ := hI.pend i hPd
   obtain rfl : o = o' := by rw [ho] at ho'; exact Option.some.inj ho'
   have hA := hI.reads hpairs ho hdeps (b := false) (.inl ⟨hI.pdp i hPd, hPd, rfl⟩)
   have hs := hop R A W hI.rels.rlt (fun e he => hI.rels.ok e (List.mem_append_right _ he)) (fun e he b hb => (hI.rels.own e (List.mem_append_right _ he) b hb).2) hA
   have hnext : ∀ u W', (∃ v' Hn R', Is v v' Hn ∧ Post1 R W v' Hn u W' R') → wpAny P .any ops Q fuel (listed.setIfInBounds i true) (A.put o.dst u) W' := by
    rintro u W' ⟨v', Hn, R', ⟨rfl, rfl⟩, hp⟩
    have hnm : i ∉ ms.map Prod.fst := fun hm => by
     obtain ⟨⟨j, c⟩, hq, hji⟩ := List.mem_map.1 hm
     have hq2 := (ordPairs_app (pre := pre) (r := ms) (by rw [← hI.ord]; exact hpairs)).2 _ (hI.pdp i hPd) _ hq
     simp only at hji
     subst hji
     exact (pairOk hq2 ho ho).ne rfl
    refine ih _ _ _ pre ms (Pd.filter (· ≠ i)) E H R' hcnt ⟨hsz, hcl, fun k hk => ?_, hI.ord, fun k hk => hI.pdp k (List.mem_filter.1 hk).1, hI.am, fun k hk => hI.pend k (List.mem_filter.1 hk).1, by simpa using hI.rels.step hp, ?_, ?_, fun t x ht hpd => ?_⟩ hhd
    ·by_cases hki : k = i
     ·subst hki
      rw [hgi]
      simp [hnm, hnl]
     ·rw [hgd k hki, hI.part k hk]
      simp [hki]
    ·rw [hd]; exact hI.defers
    ·rw [hd]; simp [Act.put, hI.tmps]
    ·rw [hd]
     by_cases hdt : d = t
     ·subst hdt
      rw [hlk] at ht
      cases ht
      rw [eval_put_same (by rw [hI.tmps]; exact hN)]; exact hp.val
     ·rw [eval_put_other hdt]
      refine (hI.act t x ht fun k hk ok hok hdk => ?_).mono hp.sub (extSame hp.ext hI.rels.rlt)
      by_cases hki : k = i
      ·subst hki
       rw [ho] at hok
       cases hok
       rw [hd] at hdk
       cases hdk
       exact hdt rfl
      ·exact hpd k (List.mem_filter.2 ⟨hk, by simpa using hki⟩) ok hok hdk
   unfold wpOp
   rw [ho]
   unfold FStep at hs
   show if Region.wanted o (yielded ops A.tmps) = true then _ else _
   split
   ·rename_i hw
    rw [if_pos hw] at hs
    refine .inl (Oper.wp_mono ?_ (wp_of_noQ hs))
    rintro A' W' ⟨u, rfl, hp⟩
    exact hnext u W' hp
   ·rename_i hw
    rw [if_neg hw] at hs
    exact hnext _ _ hs
  ·-- the next that writes
   rcases hhd with rfl | ⟨m, r, rfl⟩
   ·cases hms
   have hmlt : m < ops.size := by have := hlt (m, true) (by rw [hI.ord]; simp); exact this
   have hmf : listed.getD m false = false := (hI.part m hmlt).2 (.inr (.inl (by simp)))
   have him : i = m := by
    rcases List.mem_cons.1 hms with h | h
    ·exact h
    ·exfalso
     obtain ⟨⟨j, c⟩, hq, hji⟩ := List.mem_map.1 h
     simp only at hji
     subst hji
     have h9 := (ordPairs_app (pre := pre ++ [(m, true)]) (r := r) (by have := hI.ord; rw [List.append_assoc, List.singleton_append, ← this]; exact hpairs)).2 (m, true) (by simp) _ hq
     have hom : ops[m]? = some ops[m] := by simp [hmlt]
     have := hanc m ((pairOk h9 hom ho).main rfl)
     rw [hmf] at this; cases this
   subst him
   obtain ⟨o', ho', hAO⟩ := hI.am
   obtain rfl : o = o' := by rw [ho] at ho'; exact Option.some.inj ho'
   have hA := hI.reads hpairs ho hdeps (b := true) (.inr ⟨r, rfl⟩)
   have hs := hAO W R R A W ⟨Mods.refl _ _, hI.rels.rlt, fun _ h => h, fun _ h => .inl h, fun e he => hI.rels.ok e (List.mem_append_left _ he), fun e he b hb => ⟨.inr ⟨e, he, hb⟩, (hI.rels.own e (List.mem_append_left _ he) b hb).2⟩, (List.pairwise_append.1 hI.rels.disj).1⟩ hA
   have hnext : ∀ u W', QS ⟨W, footOf H, R, Γ.N⟩ o.dst (fun v H' => AM P Γ.N ops Hs K r (putE o.dst v E) H') .normal (A.put o.dst u) W' → wpAny P .any ops Q fuel (listed.setIfInBounds i true) (A.put o.dst u) W' := by
    rintro u W' ⟨hdf, v, H', R', ham, hsr, hvr⟩
    obtain ⟨hrel, hRW⟩ := RelS.part hI.rels hsr
    have hpd : ∀ k ∈ Pd, ∀ ok, ops[k]? = some ok → ∀ d, o.dst = some d → d ∉ ok.looksAt ops ∧ ok.dst ≠ some d := fun k hk ok hok d hd => by
     have h9 := (ordPairs_app (pre := pre) (r := (i, true) :: r) (by rw [← hI.ord]; exact hpairs)).2 _ (hI.pdp k hk) (i, true) (List.mem_cons_self ..)
     have hkf : listed.getD k false = false := (hI.part k (Array.getElem?_eq_some_iff.1 hok).1).2 (.inl hk)
     have hno : k ∉ (ancs ops.toList []).getD i [] := fun hm => by
      have := hanc k hm
      rw [hkf] at this; cases this
     exact ⟨fun hm => hno ((pairOk h9 hok ho).mn rfl d hd (.inl hm)), fun he => hno ((pairOk h9 hok ho).mn rfl d hd (.inr he))⟩
    have hnr : i ∉ r.map Prod.fst := fun hm => by
     obtain ⟨⟨j, c⟩, hq, hji⟩ := List.mem_map.1 hm
     have h9 := (ordPairs_app (pre := pre ++ [(i, true)]) (r := r) (by have := hI.ord; rw [List.append_assoc, List.singleton_append, ← this]; exact hpairs)).2 (i, true) (by simp) _ hq
     simp only at hji
     subst hji
     exact (pairOk h9 ho ho).ne rfl
    have hnp : i ∉ Pd := fun hk => by
     have h9 := (ordPairs_app (pre := pre) (r := (i, true) :: r) (by rw [← hI.ord]; exact hpairs)).2 _ (hI.pdp i hk) (i, true) (List.mem_cons_self ..)
     exact (pairOk h9 ho ho).ne rfl
    have hI' : MJ P Γ ops Hs K ord late (listed.setIfInBounds i true) (A.put o.dst u) W' (pre ++ [(i, true)]) r Pd (putE o.dst v E) H' R' := by
     refine ⟨hsz, hcl, fun k hk => ?_, by rw [hI.ord]; simp, fun k hk => List.mem_append_left _ (hI.pdp k hk), ham, fun k hk => ?_, hrel, hdf, ?_, fun t x ht hp => ?_⟩
     ·by_cases hki : k = i
      ·subst hki
       rw [hgi]
       simp [hnr, hnp, hnl]
      ·rw [hgd k hki, hI.part k hk]
       simp [hki]
     ·obtain ⟨ok, dk, vk, h1, h2, h3, h4, h5⟩ := hI.pend k hk
      refine ⟨ok, dk, vk, h1, h2, h3, ?_, ?_⟩
      ·cases hd : o.dst with
       | none => exact h4
       | some d => rw [putE, look_skip (fun e => (hpd k hk ok h1 d hd).2 (by rw [h2, e]))]; exact h4
      ·cases hd : o.dst with
       | none => exact h5
       | some d => rw [putE, rst_skip (hpd k hk ok h1 d hd).1]; exact h5
     ·cases hd : o.dst <;> simp [Act.put, hI.tmps]
     ·cases hd : o.dst with
      | none =>
       rw [hd] at ht
       exact (hI.act t x ht hp).mono hsr.rsub hRW
      | some d =>
       rw [hd, putE] at ht
       by_cases hdt : d = t
       ·subst hdt
        rw [look_here] at ht
        cases ht
        have := hvr d hd
        rwa [hd] at this
       ·rw [look_skip hdt] at ht
        rw [eval_put_other hdt]
        exact (hI.act t x ht hp).mono hsr.rsub hRW
    obtain ⟨pre', ms', Pd', E', hI2, hh2⟩ := hI'.absorb hpairs
    exact ih _ _ _ pre' ms' Pd' E' H' R' hcnt hI2 hh2
   unfold wpOp
   rw [ho]
   unfold wpList at hs
   show if Region.wanted o (yielded ops A.tmps) = true then _ else _
   split
   ·rename_i hw
    rw [if_pos hw] at hs
    refine .inl ?_
    rcases hs with hs | ⟨-, a', w', hl⟩
    ·have hs2 : o.wp P A W (wpList P ops (QS ⟨W, footOf H, R, Γ.N⟩ o.dst (fun v H' => AM P Γ.N ops Hs K r (putE o.dst v E) H')) []) NoQ := by
      unfold Oper.wp at hs ⊢
      revert hs
      cases (execOp A.eval o).run P W with
      | ok n w' =>
       cases n with
       | enter f args =>
        intro hs
        refine Calls.mono hs ?_
        intro e w'' he
        cases e with
        | returned v => exact he
        | outgrown => obtain ⟨a', w', hl⟩ := he; exact hl.elim
        | _ => exact he.elim
       | _ => exact fun h => h
      | halt x w' => cases x <;> exact fun h => h
     refine Oper.wp_mono ?_ (wp_of_noQ (Oper.wp_put hs2))
     rintro A' W' ⟨hq, hA'⟩
     have hq' : QS ⟨W, footOf H, R, Γ.N⟩ o.dst (fun v H' => AM P Γ.N ops Hs K r (putE o.dst v E) H') .normal A' W' := hq
     rcases hA' with ⟨u, rfl⟩ | hnd
     ·exact hnext u W' hq'
     ·exact absurd hq'.1 hnd
    ·exact hl.elim
   ·rename_i hw
    rw [if_neg hw] at hs
    exact hnext _ _ hs
  ·exact absurd hlt' hnl

/-- Operations in stages. -/
def AMS (P : Program) (N : Nat) (ops : Array Oper) (K : Env → List HE → Prop) : List (List (Nat × Bool)) → Env → List HE → Prop
 | [], E, H => K E H
 | ord :: r, E, H => ∃ Hm Hs, SplitH E H Hm Hs ∧ AM P N ops Hs (fun E' H' => AMS P N ops K r E' (H' ++ Hs)) ord E Hm
theorem AMS.nil {E : Env} {H : List HE} (h : K E H) : AMS P N ops K [] E H := h
def stagesOk (ops : Array Oper) (an : List (List Nat)) : List (List (Nat × Bool)) → Bool
 | [] => true
 | ord :: r => ordPairs ops an ord && (ord.all fun q => decide (q.1 < ops.size)) && (r.all fun s => s.all fun j => ord.all fun q => (an.getD j.1 []).contains q.1) && stagesOk ops an r
def stagesAll (ops : Array Oper) (os : List (List (Nat × Bool))) : Bool :=
 ((List.range ops.size).all fun i => os.any fun ord => ord.any fun q => q.1 == i) &&
 ((List.range ops.size).all fun i => (ops[i]?).all fun o => o.after.all fun e => !Region.binds .any e || decide (e.on < i)) && stagesOk ops (ancs ops.toList []) os
theorem AMS.run {Q : Exit → Act → World → Prop} (hback : ∀ i o, ops[i]? = some o → ∀ e ∈ o.after, Region.binds .any e = true → e.on < i) : ∀ (os : List (List (Nat × Bool))), stagesOk ops (ancs ops.toList []) os = true →
  ∀ (listed : Array Bool) (A : Act) (W : World) (E : Env) (H : List HE) (R : Nat → Prop), listed.size = ops.size → Closed ops listed → (∀ i, i < ops.size → (listed.getD i false = false ↔ i ∈ (os.flatten).map Prod.fst)) → RelS Γ R H W → RelA Γ.N R W E A →
   AMS P Γ.N ops (fun E' H' => AQ Γ Q .normal E' H') os E H → wpAny P .any ops Q (listed.toList.count false) listed A W
 | [], _, listed, A, W, E, H, R, hsz, hcl, hpt, hs, ha, h => by
  have hlist : ∀ i, i < ops.size → listed.getD i false = true := by
   intro i hi
   cases hb : listed.getD i false with
   | true => rfl
   | false => have := (hpt i hi).1 hb; cases this
  have h0 : listed.toList.count false = 0 := by
   rw [List.count_eq_zero]
   intro hm
   obtain ⟨i, hi, hf⟩ := List.getElem_of_mem hm
   have hi' : i < listed.size := by simpa using hi
   have := hlist i (by rw [← hsz]; exact hi')
   rw [show listed.getD i false = listed[i] by simp [Array.getD, hi']] at this
   rw [show listed.toList[i] = listed[i] by simp, this] at hf
   cases hf
  rw [h0]
  refine ⟨?_, h R A W hs ha⟩
  rw [List.eq_nil_iff_forall_not_mem]
  intro i hi
  obtain ⟨h0, o, ho, _⟩ := mem_ready.1 hi
  have hi' : i < ops.size := (Array.getElem?_eq_some_iff.1 ho).1
  have := hlist i hi'
  rw [← getD_tf (by rw [hsz]; exact hi')] at this
  rw [this] at h0; cases h0
 | ord :: os, hok, listed, A, W, E, H, R, hsz, hcl, hpt, hs, ha, h => by
  rw [stagesOk] at hok
  simp only [Bool.and_eq_true, List.all_eq_true, decide_eq_true_eq, List.contains_eq_mem] at hok
  obtain ⟨⟨⟨hp, hlt⟩, hlate⟩, hrest⟩ := hok
  obtain ⟨Hm, Hs, hH, hAM⟩ := h
  have hI : MJ P Γ ops Hs (fun E' H' => AMS P Γ.N ops (fun E' H' => AQ Γ Q .normal E' H') os E' (H' ++ Hs)) ord (os.flatten.map Prod.fst) listed A W [] ord [] E Hm R := by
   refine ⟨hsz, hcl, fun i hi => ?_, rfl, fun i hi => (by cases hi), hAM, fun i hi => (by cases hi), hs.perm hH.symm, ha.defers, ha.size, fun t v ht _ => ha.slots t v ht⟩
   rw [hpt i hi]
   simp
  obtain ⟨pre', ms', Pd', E', hI2, hh2⟩ := hI.absorb hp
  refine MJ.stage hback hp hlt (fun j hj q hq => ?_) (fun listed A W E H R h1 h2 h3 h4 h5 h6 => AMS.run hback os hrest listed A W E _ R h1 h2 h3 h4 h5 h6) _ listed A W pre' ms' Pd' E' Hm R rfl hI2 hh2
  obtain ⟨x, hx, rfl⟩ := List.mem_map.1 hj
  obtain ⟨s, hs1, hs2⟩ := List.mem_flatten.1 hx
  exact hlate s hs1 x hs2 q hq
end
end Go.Proofs.YtoonnnifelnaiaaGreatDoor.A

namespace Go.Proofs.YtoonnnifelnaiaaGreatDoor.A
open Go.RowKit L
set_option linter.unusedVariables false
set_option maxRecDepth 20000
set_option linter.unusedSimpArgs false
section
variable {Γ : Cx} {P : Program} {ops : Array Oper} {Q : Exit → Act → World → Prop} {E : Env} {H : List HE} {o : Oper} {rest : List Oper}
end
end Go.Proofs.YtoonnnifelnaiaaGreatDoor.A

namespace Go.Proofs.YtoonnnifelnaiaaGreatDoor.A
open Go.RowKit L
set_option linter.unusedVariables false
set_option maxRecDepth 20000
set_option linter.unusedSimpArgs false
section
variable {P : Program} {E : Env} {H : List HE} {N : Nat} {o : Oper}
end
end Go.Proofs.YtoonnnifelnaiaaGreatDoor.A

namespace Go.Proofs.YtoonnnifelnaiaaGreatDoor.A
open Go.RowKit L
set_option linter.unusedVariables false
set_option maxRecDepth 20000
set_option linter.unusedSimpArgs false
section
variable {Γ : Cx} {P : Program} {Q : Exit → Act → World → Prop} {E : Env} {H : List HE} {N : Nat} {o : Oper} {ops : Array Oper} {rest : List Oper}
theorem CoeL.app {a b x y : List AV} (h : CoeL a b) (k : CoeL x y) : CoeL (a ++ x) (b ++ y) := fun R W us hu => by
 induction a generalizing b us with
 | nil =>
  have hb : b = [] := by
   have := (h R W [] RelL.nil).1
   exact List.eq_nil_of_length_eq_zero this.symm
  subst hb
  exact k R W us hu
 | cons u a ih =>
  have h1 : us.take (a.length + 1) ++ us.drop (a.length + 1) = us := List.take_append_drop ..
  have h2 := hu.take (a.length + 1)
  have h3 := hu.drop (a.length + 1)
  rw [show ((u :: a) ++ x).take (a.length + 1) = u :: a by simp] at h2
  rw [show ((u :: a) ++ x).drop (a.length + 1) = x by simp] at h3
  rw [← h1]
  exact RelL.app (h R W _ h2) (k R W _ h3)
theorem Coe.ro {full : Bool} {n : Nat} {xs ys : List AV} (h : CoeL xs ys) : Coe (.ro full n xs) (.ro full n ys) := fun R W u hu => by
 cases hu with
 | emp _ a cap h1 h2 =>
  have hy : ys = [] := List.eq_nil_of_length_eq_zero (h R W [] RelL.nil).1.symm
  subst hy
  exact .emp _ a cap h1 h2
 | ro _ _ _ b off cap us hb hc hr h1 h2 h3 =>
  have hl : RelL R W xs ((List.range xs.length).map us) := ⟨by simp, fun j hj => by simpa [hj] using hr j hj⟩
  have hk := h R W _ hl
  have he : ys.length = xs.length := by have := hk.1; simpa using this.symm
  refine .ro _ _ _ b off cap us hb (fun j hj => hc j (by omega)) (fun j hj => ?_) h1 h2 h3
  have := hk.2 j hj
  rw [he] at hj
  simpa [hj] using this
theorem G.coeRow {X : Act → World → Prop} (i : Nat) {v : Value} {T sz n : Nat} {xs : List AV} (m : Nat) (ys : List AV) (hi : H[i]? = some (.row v T sz n xs)) (hm : n = m) (h : CoeL xs ys) (k : G Γ E (H.set i (.row v T sz m ys)) X) : G Γ E H X := fun R a W hs ha => by
 subst hm
 obtain ⟨us, h1, h2⟩ := hs.ok _ (List.mem_of_getElem? hi)
 exact k R a W (hs.setSame hi (fun b hb => hb) ⟨us, h1, h R W us h2⟩) ha
/-- A literal whose elements are all given, in order. -/
def seqA (k : Nat) : Nat → List (Nat × AV) → Option (List AV)
 | _, [] => some []
 | i, (j, v) :: r => bif Nat.beq j i && Nat.beq v.cells.length k then (match seqA k (i + 1) r with | some ys => some (v.cells ++ ys) | none => none) else none
/-! ### Several results, each in a temporary or in a box -/
def resOne (tmps : Array Value) : ResultVar → Sem Value
 | .tmp t => pure (tmps.getD t undef)
 | .cell a t => do loadVar t (← asAddr (tmps.getD a undef))
theorem results_eq (fn : Func) (tmps : Array Value) : results fn tmps = (do
  let vs ← fn.results.mapM (resOne tmps)
  pure (if h : vs.size = 1 then vs[0] else .tuple vs)) := by
 unfold results
 congr 1
def ResAt (Γ : Cx) (P : Program) (E : Env) (H : List HE) (x : ResultVar) (q : AV) : Prop :=
 ∀ R a W, RelS Γ R H W → RelA Γ.N R W E a → ∃ u, (resOne a.tmps x).run P W = .ok u W ∧ RelV R W q u
theorem ResAt.tmp {t : Nat} {q : AV} (h : look E t = some q) : ResAt Γ P E H (.tmp t) q := fun R a W hs ha => ⟨a.eval (.tmp t), rfl, ha.slots t q h⟩
theorem ResAt.cell {t T k b T' room : Nat} {xs ys : List AV} [hg : TyG P T true k] (ht : look E t = some (.val (.pointer (some ⟨b, 0, none⟩)))) (hm : HE.blk b T' room xs ∈ H) (hv : xs.take k = ys) (hk : ys.length = k) : ResAt Γ P E H (.cell t T) (.agg ys) := fun R a W hs ha => by
 obtain ⟨us, cs, hb, hsz, hts, hrl⟩ := hs.ok _ hm
 have hrl := hrl.take k
 rw [hv] at hrl
 have hl := run_loadVarK hg W b 0 (us.take k) (by rw [hrl.1, hk]) (fun i u hi => by
  rw [cell_of_row W b (0 + i) cs T' (0, 0) hb]
  rw [List.getElem?_take] at hi
  split at hi
  ·rw [← hts, List.getElem?_take] at hi
   split at hi
   ·simpa using hi
   ·cases hi
  ·cases hi)
 have hv' := (ha.slots t _ ht).val_inv
 refine ⟨.agg (us.take k).toArray, ?_, hrl.toAgg⟩
 have : a.tmps.getD t undef = .pointer (some ⟨b, 0, none⟩) := hv'
 simp [resOne, this, asAddr, hl]
theorem AQ.ret3G {fn : Func} {Post : AV → List HE → Prop} {x y z : ResultVar} {p q r : AV} {H' : List HE} (hr : fn.results = #[x, y, z]) (h1 : ResAt Γ P E H x p) (h2 : ResAt Γ P E H y q) (h3 : ResAt Γ P E H z r)
  (hH : ∃ H1, H1.Sublist H ∧ H'.Perm H1) (hp : Post (.tup [p, q, r]) H') : AQ Γ (FnQ Γ P fn Post) .ret E H := fun R a W hs ha => by
 obtain ⟨H1, k1, k2⟩ := hH
 obtain ⟨u1, e1, g1⟩ := h1 R a W hs ha
 obtain ⟨u2, e2, g2⟩ := h2 R a W hs ha
 obtain ⟨u3, e3, g3⟩ := h3 R a W hs ha
 refine ⟨ha.defers, .tuple #[u1, u2, u3], ?_, _, _, H', R, rfl, hp, ?_, RelL.toTup (us := [u1, u2, u3]) (RelL.cons g1 (RelL.cons g2 (RelL.cons g3 RelL.nil)))⟩
 ·rw [results_eq, hr]
  simp [e1, e2, e3]
 ·have := (hs.sub k1).perm k2
  exact ⟨this.mods, this.rlt, this.rsub, this.rnew, this.ok, this.own, this.disj⟩
theorem AQ.ret4G {fn : Func} {Post : AV → List HE → Prop} {x y z w : ResultVar} {p q r s : AV} {H' : List HE} (hr : fn.results = #[x, y, z, w]) (h1 : ResAt Γ P E H x p) (h2 : ResAt Γ P E H y q) (h3 : ResAt Γ P E H z r) (h4 : ResAt Γ P E H w s)
  (hH : ∃ H1, H1.Sublist H ∧ H'.Perm H1) (hp : Post (.tup [p, q, r, s]) H') : AQ Γ (FnQ Γ P fn Post) .ret E H := fun R a W hs ha => by
 obtain ⟨H1, k1, k2⟩ := hH
 obtain ⟨u1, e1, g1⟩ := h1 R a W hs ha
 obtain ⟨u2, e2, g2⟩ := h2 R a W hs ha
 obtain ⟨u3, e3, g3⟩ := h3 R a W hs ha
 obtain ⟨u4, e4, g4⟩ := h4 R a W hs ha
 refine ⟨ha.defers, .tuple #[u1, u2, u3, u4], ?_, _, _, H', R, rfl, hp, ?_, RelL.toTup (us := [u1, u2, u3, u4]) (RelL.cons g1 (RelL.cons g2 (RelL.cons g3 (RelL.cons g4 RelL.nil))))⟩
 ·rw [results_eq, hr]
  simp [e1, e2, e3, e4]
 ·have := (hs.sub k1).perm k2
  exact ⟨this.mods, this.rlt, this.rsub, this.rnew, this.ok, this.own, this.disj⟩
end
end Go.Proofs.YtoonnnifelnaiaaGreatDoor.A

namespace Go.Proofs.YtoonnnifelnaiaaGreatDoor.A
open Go.RowKit L
set_option linter.unusedVariables false
set_option maxRecDepth 20000
set_option linter.unusedSimpArgs false

section
variable {P : Program} {ops : Array Oper} {N : Nat}
/-- Operations in this order: true those that write, false those that read. -/
structure Al where
 (i d T room : Nat) (xs : List AV)
def Al.ok (P : Program) (N : Nat) (ops : Array Oper) (al : Al) : Prop :=
 ∃ o, ops[al.i]? = some o ∧ o.dst = some al.d ∧ al.d < N ∧ o.guard = none ∧ OpW P N o [] [] (NewBlk (fun b => .val (.pointer (some ⟨b, 0, none⟩))) al.T al.room al.xs)
def Al.he (al : Al) (b : Nat) : HE := .blk b al.T al.room al.xs
def Al.hs (al : Al) : Option Nat → List HE
 | none => []
 | some b => [al.he b]
def AN (P : Program) (N : Nat) (ops : Array Oper) (al : Al) (Hs : List HE) (K : Env → List HE → Prop) : List (Nat × Bool) → Env → List HE → Prop
 | [], E, H => K E H
 | (i, true) :: r, E, H => if i = al.i then (∀ b, AN P N ops al Hs K r ((al.d, .val (.pointer (some ⟨b, 0, none⟩))) :: E) (al.he b :: H)) else ∃ o, ops[i]? = some o ∧ ∀ w0 R0, AO ⟨w0, footOf H, R0, N⟩ P ops (QS ⟨w0, footOf H, R0, N⟩ o.dst (fun v H' => AN P N ops al Hs K r (putE o.dst v E) H')) [o] (rst E (o.looksAt ops)) H
 | (i, false) :: r, E, H => ∃ o d v, ops[i]? = some o ∧ o.dst = some d ∧ d < N ∧ OpF P N ops o (rst E (o.looksAt ops)) Hs (Is v) ∧ AN P N ops al Hs K r ((d, v) :: E) H

/-- One operation ahead of another. -/
def ordPairA (ops : Array Oper) (ia : Nat) (an : List (List Nat)) (i : Nat) (b : Bool) (j : Nat) (c : Bool) : Bool :=
 match ops[i]?, ops[j]? with
 | some oi, some oj =>
  let waits := oj.after.any fun e => Region.binds .any e && e.on == i
  let anc := (an.getD j []).contains i
  (i != j) && (!b || anc || j == ia) &&
  (match oj.dst with
   | some d => bif c && j != ia then (!((oi.looksAt ops).contains d || oi.dst == some d)) || anc else !(oi.looksAt ops).contains d && oi.dst != some d
   | none => c && j != ia) &&
  (match oi.dst with
   | some d => !(oj.looksAt ops).contains d || waits
   | none => true)
 | _, _ => false
def ordPairsA (ops : Array Oper) (ia : Nat) (an : List (List Nat)) : List (Nat × Bool) → Bool
 | [] => true
 | (i, b) :: r => (b || (match ops[i]? with | some o => (match o.dst with | some d => !(o.looksAt ops).contains d | none => false) | none => false)) && r.all (fun q => ordPairA ops ia an i b q.1 q.2) && ordPairsA ops ia an r
def ordOkA (ops : Array Oper) (ia : Nat) (ord : List (Nat × Bool)) : Bool :=
 ((List.range ops.size).all fun i => (ord.map Prod.fst).contains i) && (ord.all fun q => decide (q.1 < ops.size)) &&
 ((List.range ops.size).all fun i => (ops[i]?).all fun o => o.after.all fun e => !Region.binds .any e || decide (e.on < i)) && (ord.all fun q => q.1 != ia || q.2) && ordPairsA ops ia (ancs ops.toList []) ord

theorem ordPairsA_app {ia : Nat} {an : List (List Nat)} : ∀ {pre r : List (Nat × Bool)}, ordPairsA ops ia an (pre ++ r) = true → ordPairsA ops ia an r = true ∧ ∀ q ∈ pre, ∀ s ∈ r, ordPairA ops ia an q.1 q.2 s.1 s.2 = true
 | [], r, h => ⟨h, fun q hq => by cases hq⟩
 | (i, b) :: pre, r, h => by
  rw [List.cons_append, ordPairsA] at h
  simp only [Bool.and_eq_true, List.all_eq_true] at h
  obtain ⟨h1, h2⟩ := ordPairsA_app h.2
  refine ⟨h1, fun q hq s hs => ?_⟩
  rcases List.mem_cons.1 hq with rfl | hq
  ·exact h.1.2 s (List.mem_append_right _ hs)
  ·exact h2 q hq s hs

structure PairOkA (ops : Array Oper) (ia : Nat) (an : List (List Nat)) (i : Nat) (b : Bool) (oi : Oper) (j : Nat) (c : Bool) (oj : Oper) : Prop where
 ne : i ≠ j
 main : b = true → j ≠ ia → i ∈ an.getD j []
 flt : c = false ∨ j = ia → ∃ d, oj.dst = some d ∧ d ∉ oi.looksAt ops ∧ oi.dst ≠ some d
 mn : c = true → j ≠ ia → ∀ d, oj.dst = some d → (d ∈ oi.looksAt ops ∨ oi.dst = some d) → i ∈ an.getD j []
 reads : ∀ d, oi.dst = some d → d ∈ oj.looksAt ops → ∃ e ∈ oj.after, Region.binds .any e = true ∧ e.on = i
theorem pairOkA {ia : Nat} {an : List (List Nat)} {i j : Nat} {b c : Bool} {oi oj : Oper} (h : ordPairA ops ia an i b j c = true) (hi : ops[i]? = some oi) (hj : ops[j]? = some oj) : PairOkA ops ia an i b oi j c oj := by
 unfold ordPairA at h
 rw [hi, hj] at h
 simp only [Bool.and_eq_true, bne_iff_ne, ne_eq] at h
 obtain ⟨⟨⟨h1, h2⟩, h3⟩, h4⟩ := h
 refine ⟨h1, fun hb hj => ?_, fun hc => ?_, fun hc hj d hd hm => ?_, fun d hd hm => ?_⟩
 ·subst hb; simpa [hj] using h2
 ·have hcj : (c && j != ia) = false := by rcases hc with hc | hc <;> simp [hc]
  cases hd : oj.dst with
  | none => rw [hd] at h3; simp only [hcj] at h3; cases h3
  | some d =>
   rw [hd] at h3
   simp only [hcj, cond_false] at h3
   simp at h3
   exact ⟨d, rfl, h3.1, h3.2⟩
 ·subst hc
  have hcj : (true && j != ia) = true := by simp [hj]
  rw [hd] at h3
  simp only [hcj, cond_true] at h3
  simp at h3
  rcases h3 with h3 | h3
  ·rcases hm with hm | hm
   ·exact absurd hm h3.1
   ·exact absurd hm h3.2
  ·exact h3
 ·rw [hd] at h4
  simp only [Bool.or_eq_true, Bool.not_eq_true', List.contains_eq_mem, decide_eq_false_iff_not] at h4
  rcases h4 with h4 | h4
  ·exact absurd hm h4
  ·obtain ⟨x, hx, hx2⟩ := any_mem h4
   simp only [Bool.and_eq_true, beq_iff_eq] at hx2
   exact ⟨x, hx, hx2.1, hx2.2⟩

/-- The state on the way. -/
structure NI (P : Program) (Γ : Cx) (ops : Array Oper) (al : Al) (Hs : List HE) (K : Env → List HE → Prop) (ord : List (Nat × Bool)) (listed : Array Bool) (A : Act) (W : World) (pre ms : List (Nat × Bool)) (Pd : List Nat) (ea : Option Nat) (E : Env) (H : List HE) (R : Nat → Prop) : Prop where
 size : listed.size = ops.size
 closed : Closed ops listed
 part : ∀ i, i < ops.size → (listed.getD i false = false ↔ (i ∈ Pd ∨ i ∈ ms.map Prod.fst) ∧ (ea ≠ none → i ≠ al.i))
 ord : ord = pre ++ ms
 pdp : ∀ i ∈ Pd, (i, false) ∈ pre
 am : AN P Γ.N ops al Hs K ms E H
 pend : ∀ i ∈ Pd, ∃ o d v, ops[i]? = some o ∧ o.dst = some d ∧ d < Γ.N ∧ look E d = some v ∧ OpF P Γ.N ops o (rst E (o.looksAt ops)) Hs (Is v)
 rels : RelS Γ R (H ++ (al.hs ea ++ Hs)) W
 eal : ∀ b, ea = some b → (al.i, true) ∈ ms ∧ A.eval (.tmp al.d) = .pointer (some ⟨b, 0, none⟩)
 defers : A.defers = []
 tmps : A.tmps.size = Γ.N
 act : ∀ t v, look E t = some v → (∀ i ∈ Pd, ∀ o, ops[i]? = some o → o.dst ≠ some t) → (ea ≠ none → t ≠ al.d) → RelV R W v (A.eval (.tmp t))

variable {Γ : Cx} {al : Al} {Hs : List HE} {K : Env → List HE → Prop} {ord : List (Nat × Bool)}

/-- What reads is pending as soon as it may run. -/
theorem NI.absorb {listed : Array Bool} {A : Act} {W : World} {R : Nat → Prop} (hok : ordPairsA ops al.i (ancs ops.toList []) ord = true) (hal : al.ok P Γ.N ops) : ∀ (ms pre : List (Nat × Bool)) (Pd : List Nat) (ea : Option Nat) (E : Env) (H : List HE), NI P Γ ops al Hs K ord listed A W pre ms Pd ea E H R →
  ∃ pre' ms' Pd' ea' E' H', NI P Γ ops al Hs K ord listed A W pre' ms' Pd' ea' E' H' R ∧ (ms' = [] ∨ ∃ m r, ms' = (m, true) :: r ∧ (m = al.i → ea' = none))
 | [], pre, Pd, ea, E, H, h => ⟨pre, [], Pd, ea, E, H, h, .inl rfl⟩
 | (m, true) :: r, pre, Pd, ea, E, H, h => by
  by_cases hm : m = al.i
  ·subst hm
   cases hea : ea with
   | none => subst hea; exact ⟨pre, _, Pd, none, E, H, h, .inr ⟨_, r, rfl, fun _ => rfl⟩⟩
   | some b =>
    subst hea
    obtain ⟨oa, ho, hd, hN, hg, hop⟩ := hal
    have ham := h.am
    rw [AN, if_pos rfl] at ham
    have hord := h.ord
    have hq := ordPairsA_app (pre := pre) (r := (al.i, true) :: r) (by rw [← hord]; exact hok)
    have hself : ∀ i ∈ Pd, i ≠ al.i := fun i hi e => by
     have := pairOkA (hq.2 _ (h.pdp i hi) (al.i, true) (List.mem_cons_self ..)) (by rw [e]; exact ho) ho
     exact this.ne e
    have hp : ∀ i ∈ Pd, ∀ oi, ops[i]? = some oi → al.d ∉ oi.looksAt ops ∧ oi.dst ≠ some al.d := fun i hi oi hoi => by
     have := pairOkA (hq.2 _ (h.pdp i hi) (al.i, true) (List.mem_cons_self ..)) hoi ho
     obtain ⟨d', h1, h2, h3⟩ := this.flt (.inr rfl)
     rw [hd] at h1
     cases h1
     exact ⟨h2, h3⟩
    have hnr : al.i ∉ r.map Prod.fst := fun hm => by
     obtain ⟨⟨j, c⟩, hq3, hji⟩ := List.mem_map.1 hm
     have h9 := (ordPairsA_app (pre := pre ++ [(al.i, true)]) (r := r) (by rw [List.append_assoc, List.singleton_append, ← hord]; exact hok)).2 (al.i, true) (by simp) _ hq3
     simp only at hji
     subst hji
     exact (pairOkA h9 ho ho).ne rfl
    refine NI.absorb hok ⟨oa, ho, hd, hN, hg, hop⟩ r (pre ++ [(al.i, true)]) Pd none ((al.d, .val (.pointer (some ⟨b, 0, none⟩))) :: E) (al.he b :: H) ⟨h.size, h.closed, fun i hi => ?_, by rw [hord]; simp, fun i hi => List.mem_append_left _ (h.pdp i hi), ham b, fun i hi => ?_, ?_, fun _ h => (by cases h), h.defers, h.tmps, fun t x ht hpd _ => ?_⟩
    ·rw [h.part i hi]
     simp only [List.map_cons, List.mem_cons, ne_eq, not_false_eq_true, forall_const, not_true_eq_false, false_implies, and_true, reduceCtorEq]
     constructor
     ·rintro ⟨h1 | h1 | h1, h2⟩
      ·exact .inl h1
      ·exact absurd h1 h2
      ·exact .inr h1
     ·rintro (h1 | h1)
      ·exact ⟨.inl h1, hself i h1⟩
      ·exact ⟨.inr (.inr h1), fun e => hnr (e ▸ h1)⟩
    ·obtain ⟨oi, di, vi, h1, h2, h3, h4, h5⟩ := h.pend i hi
     obtain ⟨h6, h7⟩ := hp i hi oi h1
     refine ⟨oi, di, vi, h1, h2, h3, ?_, by rw [rst_skip h6]; exact h5⟩
     rw [look_skip (fun e => h7 (by rw [h2, e]))]; exact h4
    ·refine h.rels.perm ?_
     show (al.he b :: (H ++ ([] ++ Hs))).Perm (H ++ ([al.he b] ++ Hs))
     exact (List.perm_middle (a := al.he b) (l₁ := H) (l₂ := Hs)).symm
    ·by_cases hdt : al.d = t
     ·subst hdt
      rw [look_here] at ht
      cases ht
      rw [(h.eal b rfl).2]; exact .val _
     ·rw [look_skip hdt] at ht
      exact h.act t x ht hpd fun _ e => hdt e.symm
  ·exact ⟨pre, _, Pd, ea, E, H, h, .inr ⟨m, r, rfl, fun e => absurd e hm⟩⟩
 | (j, false) :: r, pre, Pd, ea, E, H, h => by
  obtain ⟨o, d, v, ho, hd, hN, hop, ham⟩ := h.am
  have hord := h.ord
  have hq := ordPairsA_app (pre := pre) (r := (j, false) :: r) (by rw [← hord]; exact hok)
  have hself : d ∉ o.looksAt ops := by
   have := hq.1
   rw [ordPairsA] at this
   simp only [Bool.and_eq_true, ho, hd, Bool.false_or] at this
   simpa using this.1.1
  have hp : ∀ i ∈ Pd, ∀ oi, ops[i]? = some oi → d ∉ oi.looksAt ops ∧ oi.dst ≠ some d := fun i hi oi hoi => by
   have := pairOkA (hq.2 _ (h.pdp i hi) (j, false) (List.mem_cons_self ..)) hoi ho
   obtain ⟨d', h1, h2, h3⟩ := this.flt (.inl rfl)
   rw [hd] at h1
   cases h1
   exact ⟨h2, h3⟩
  refine NI.absorb hok hal r (pre ++ [(j, false)]) (j :: Pd) ea ((d, v) :: E) H ⟨h.size, h.closed, fun i hi => ?_, by rw [hord]; simp, fun i hi => ?_, ham, fun i hi => ?_, h.rels, fun b hb => ?_, h.defers, h.tmps, fun t x ht hpd hea => ?_⟩
  ·rw [h.part i hi]
   simp only [List.map_cons, List.mem_cons]
   refine and_congr_left fun _ => ?_
   constructor
   ·rintro (h | h | h)
    ·exact .inl (.inr h)
    ·exact .inl (.inl h)
    ·exact .inr h
   ·rintro ((h | h) | h)
    ·exact .inr (.inl h)
    ·exact .inl h
    ·exact .inr (.inr h)
  ·rcases List.mem_cons.1 hi with rfl | hi
   ·simp
   ·exact List.mem_append_left _ (h.pdp i hi)
  ·rcases List.mem_cons.1 hi with rfl | hi
   ·exact ⟨o, d, v, ho, hd, hN, look_here, by rw [rst_skip hself]; exact hop⟩
   ·obtain ⟨oi, di, vi, h1, h2, h3, h4, h5⟩ := h.pend i hi
    obtain ⟨h6, h7⟩ := hp i hi oi h1
    refine ⟨oi, di, vi, h1, h2, h3, ?_, by rw [rst_skip h6]; exact h5⟩
    rw [look_skip (fun e => h7 (by rw [h2, e]))]; exact h4
  ·obtain ⟨h1, h2⟩ := h.eal b hb
   rcases List.mem_cons.1 h1 with h1 | h1
   ·cases h1
   ·exact ⟨h1, h2⟩
  ·have hne : d ≠ t := fun e => hpd j (List.mem_cons_self ..) o ho (by rw [hd, e])
   rw [look_skip hne] at ht
   exact h.act t x ht (fun i hi => hpd i (List.mem_cons_of_mem _ hi)) hea

theorem NI.reads {listed : Array Bool} {A : Act} {W : World} {R : Nat → Prop} {pre ms : List (Nat × Bool)} {Pd : List Nat} {ea : Option Nat} {E : Env} {H : List HE} (hok : ordPairsA ops al.i (ancs ops.toList []) ord = true) (hal : al.ok P Γ.N ops) (h : NI P Γ ops al Hs K ord listed A W pre ms Pd ea E H R)
  {i : Nat} {b : Bool} {o : Oper} (ho : ops[i]? = some o) (hdeps : ∀ e ∈ o.after, Region.binds .any e = true → listed.getD e.on false = true) (hi : (i, b) ∈ pre ∧ i ∈ Pd ∧ b = false ∨ ∃ r, ms = (i, b) :: r ∧ i ≠ al.i) : RelA Γ.N R W (rst E (o.looksAt ops)) A := by
 refine ⟨h.defers, h.tmps, fun t v ht => ?_⟩
 obtain ⟨htl, ht⟩ := look_rst ht
 obtain ⟨oa, hoa, hda, -⟩ := hal
 have hnal : ea ≠ none → t ≠ al.d := fun hea e => by
  obtain ⟨b', hb'⟩ := Option.ne_none_iff_exists'.1 hea
  have hmem := (h.eal b' hb').1
  have key : ordPairA ops al.i (ancs ops.toList []) i b al.i true = true → False := fun hp => by
   obtain ⟨d', h1, h2, -⟩ := (pairOkA hp ho hoa).flt (.inr rfl)
   rw [hda] at h1; cases h1
   exact h2 (e ▸ htl)
  rcases hi with ⟨hip, -, -⟩ | ⟨r, hms, hne⟩
  ·exact key ((ordPairsA_app (pre := pre) (r := ms) (by rw [← h.ord]; exact hok)).2 _ hip _ hmem)
  ·rw [hms] at hmem
   rcases List.mem_cons.1 hmem with h9 | h9
   ·cases h9; exact hne rfl
   ·exact key ((ordPairsA_app (pre := pre ++ [(i, b)]) (r := r) (by have := h.ord; rw [List.append_assoc, List.singleton_append, ← hms, ← this]; exact hok)).2 (i, b) (by simp) _ h9)
 refine h.act t v ht (fun k hk ok hok' hdk => ?_) hnal
 have hkp := h.pdp k hk
 have hkn : ea ≠ none → k ≠ al.i := fun hea e => by
  obtain ⟨b', hb'⟩ := Option.ne_none_iff_exists'.1 hea
  have hmem := (h.eal b' hb').1
  exact (pairOkA ((ordPairsA_app (pre := pre) (r := ms) (by rw [← h.ord]; exact hok)).2 _ hkp _ hmem) hok' hoa).ne e
 have hkf : listed.getD k false = false := (h.part k (Array.getElem?_eq_some_iff.1 hok').1).2 ⟨.inl hk, hkn⟩
 have direct : ordPairA ops al.i (ancs ops.toList []) k false i b = true → False := fun hp => by
  obtain ⟨e, he, hb, hon⟩ := (pairOkA hp hok' ho).reads t hdk htl
  have := hdeps e he hb
  rw [hon, hkf] at this; cases this
 rcases hi with ⟨hip, hiP, rfl⟩ | ⟨r, hms, -⟩
 ·-- both ahead
  obtain ⟨p1, p2, hp12⟩ := List.append_of_mem hkp
  have hord := h.ord
  rw [hp12, List.append_assoc] at hord
  rw [hp12] at hip
  rcases List.mem_append.1 hip with hip | hip
  ·-- i ahead of k
   have hq := ordPairsA_app (pre := p1) (by rw [← hord]; exact hok)
   have := pairOkA (hq.2 _ hip (k, false) (List.mem_cons_self ..)) ho hok'
   obtain ⟨d', h1, h2, -⟩ := this.flt (.inl rfl)
   rw [hdk] at h1; cases h1
   exact h2 htl
  ·rcases List.mem_cons.1 hip with he | hip
   ·cases he
    -- itself
    have hq := (ordPairsA_app (pre := p1) (by rw [← hord]; exact hok)).1
    rw [List.cons_append, ordPairsA] at hq
    simp only [Bool.and_eq_true] at hq
    obtain rfl : o = ok := by rw [ho] at hok'; exact Option.some.inj hok'
    have := hq.1.1
    rw [ho] at this
    simp only [hdk, Bool.false_or] at this
    simp at this
    exact this htl
   ·rw [show p1 ++ ((k, false) :: p2 ++ ms) = (p1 ++ [(k, false)]) ++ (p2 ++ ms) by simp] at hord
    have hq := ordPairsA_app (pre := p1 ++ [(k, false)]) (by rw [← hord]; exact hok)
    exact direct (hq.2 (k, false) (by simp) (i, false) (List.mem_append_left _ hip))
 ·have hq := ordPairsA_app (pre := pre) (r := ms) (by rw [← h.ord]; exact hok)
  exact direct (hq.2 _ hkp (i, b) (by rw [hms]; exact List.mem_cons_self ..))

/-! One operation. -/
theorem AN.op {i d : Nat} {r : List (Nat × Bool)} {E : Env} {H : List HE} {o : Oper} {v : AV} (ho : ops[i]? = some o) (h : OpW P N o (rst E (o.looksAt ops)) Hs (Is v)) (hw : wantedIs ops (rst E (o.looksAt ops)) o = some true) (hd : o.dst = some d) (hN : Nat.ble (d + 1) N = true) (k : AN P N ops al Hs K r ((d, v) :: E) H) :
  AN P N ops al Hs K ((i, false) :: r) E H := ⟨o, d, v, ho, hd, Nat.le_of_ble_eq_true hN, .run hw h, k⟩
theorem AN.opG {i d : Nat} {r : List (Nat × Bool)} {E : Env} {H : List HE} {o : Oper} {c : Bool} {v : AV} (ho : ops[i]? = some o) (hw : guardIs ops (rst E (o.looksAt ops)) o = some c) (hd : o.dst = some d) (hN : Nat.ble (d + 1) N = true) (h : c = true → OpW P N o (rst E (o.looksAt ops)) Hs (Is v)) (k : AN P N ops al Hs K r ((d, .opt c v) :: E) H) :
  AN P N ops al Hs K ((i, false) :: r) E H := ⟨o, d, _, ho, hd, Nat.le_of_ble_eq_true hN, .opt hw h, k⟩
theorem AN.no {i d : Nat} {r : List (Nat × Bool)} {E : Env} {H : List HE} {o : Oper} (ho : ops[i]? = some o) (hw : wantedIs ops (rst E (o.looksAt ops)) o = some false) (hd : o.dst = some d) (hN : Nat.ble (d + 1) N = true) (k : AN P N ops al Hs K r ((d, .val undef) :: E) H) :
  AN P N ops al Hs K ((i, false) :: r) E H := ⟨o, d, _, ho, hd, Nat.le_of_ble_eq_true hN, .no hw, k⟩
theorem AN.main {i : Nat} {r : List (Nat × Bool)} {E : Env} {H : List HE} (o : Oper) (ho : ops[i]? = some o) (hne : Nat.beq i al.i = false) (h : ∀ w0 R0, AO ⟨w0, footOf H, R0, N⟩ P ops (QS ⟨w0, footOf H, R0, N⟩ o.dst (fun v H' => AN P N ops al Hs K r (putE o.dst v E) H')) [o] (rst E (o.looksAt ops)) H) :
  AN P N ops al Hs K ((i, true) :: r) E H := by rw [AN, if_neg (Nat.ne_of_beq_eq_false hne)]; exact ⟨o, ho, h⟩
theorem AN.box {i : Nat} {r : List (Nat × Bool)} {E : Env} {H : List HE} (he : i = al.i) (k : ∀ b, AN P N ops al Hs K r ((al.d, .val (.pointer (some ⟨b, 0, none⟩))) :: E) (al.he b :: H)) : AN P N ops al Hs K ((i, true) :: r) E H := by rw [AN, if_pos he]; exact k
theorem AN.nil {E : Env} {H : List HE} (h : K E H) : AN P N ops al Hs K [] E H := h
end
end Go.Proofs.YtoonnnifelnaiaaGreatDoor.A

namespace Go.Proofs.YtoonnnifelnaiaaGreatDoor.A
open Go.RowKit L
set_option linter.unusedVariables false
set_option maxRecDepth 20000
set_option linter.unusedSimpArgs false
section
variable {Γ : Cx} {P : Program} {Q : Exit → Act → World → Prop} {E : Env} {H : List HE} {N : Nat} {o : Oper} {ops : Array Oper} {rest : List Oper}
end
end Go.Proofs.YtoonnnifelnaiaaGreatDoor.A

namespace Go.Proofs.YtoonnnifelnaiaaGreatDoor.A
open Go.RowKit L
open Go.Maps (Keyed)
set_option linter.unusedVariables false
set_option maxRecDepth 20000
set_option linter.unusedSimpArgs false

abbrev Ents := List (Lit × Lit)
def dents (M : Ents) : List (Lit × DataW Unit) := M.map fun p => (p.1, DataW.lit p.2)
def OwnM (P : Program) (k e : TypeId) (b : Nat) (M : Ents) (W : World) : Prop := ∃ n l, W.ownsMap P k (plainElem (H := Unit) P e) b n (.map l) ∧ l.Perm (dents M)
def mapHE (P : Program) (k e : TypeId) (b : Nat) (M : Ents) : HE := .prd (fun c => c = b) (OwnM P k e b M)

def mHas (M : Ents) (k : Lit) : Bool := M.any fun p => p.1.sameKey k
def mGet (M : Ents) (k z : Lit) : Lit := match M.find? (fun p => p.1.sameKey k) with | some p => p.2 | none => z
def mDel (M : Ents) (k : Lit) : Ents := M.filter fun p => !p.1.sameKey k
def mPut (M : Ents) (k v : Lit) : Ents := (k, v) :: mDel M k

theorem OwnM.same {P : Program} {k e : TypeId} {b : Nat} {M : Ents} {W W' : World} (h : OwnM P k e b M W) (hb : W'.heap[b]? = W.heap[b]?) : OwnM P k e b M W' := by
 obtain ⟨n, l, ⟨es, clock, h1, h2⟩, h3⟩ := h
 exact ⟨n, l, ⟨es, clock, hb.trans h1, h2⟩, h3⟩
theorem mapHE_ok {P : Program} {k e : TypeId} {b : Nat} {M : Ents} {R : Nat → Prop} {W : World} (h : OwnM P k e b M W) : (mapHE P k e b M).ok R W := by
 refine ⟨h, fun W' _ hf => h.same (hf b rfl), fun c hc => ?_⟩
 subst hc
 obtain ⟨n, l, h1, _⟩ := h
 exact h1.lt

section
variable {P : Program} {k e : TypeId} {b : Nat} {M : Ents} {W : World}

theorem OwnM.size (h : OwnM P k e b M W) : ∃ l, W.ownsMap P k (plainElem (H := Unit) P e) b M.length (.map l) ∧ l.Perm (dents M) := by
 obtain ⟨n, l, ⟨es, clock, h1, h2, h3, h4⟩, h5⟩ := h
 have e1 : es.size = M.length := by
  have h6 := congrArg Maps.size h4
  simp [Maps.size, length_sorted] at h6
  rw [← h6, h5.length_eq]; simp [dents]
 exact ⟨l, ⟨es, clock, h1, h2, by omega, h4⟩, h5⟩
theorem OwnM.apart (h : OwnM P k e b M W) (K : Keyed P k) : (dents M).Pairwise (fun p q => p.1 ≠ q.1) := by
 obtain ⟨n, l, h1, h2⟩ := h
 obtain ⟨es, he, hp⟩ := h1.tidy K
 cases he
 exact (h2.pairwise_iff (fun {_ _} hne => Ne.symm hne)).1 hp
theorem dents_get {l : List (Lit × DataW Unit)} (hp : l.Perm (dents M)) (hap : (dents M).Pairwise (fun p q => p.1 ≠ q.1)) {kl z : Lit} (hk : WideAt.IsKeyLit kl) : (DataW.map l).atKey kl (.lit z) = .lit (mGet M kl z) := by
 have hal : l.Pairwise (fun p q => p.1 ≠ q.1) := (hp.symm.pairwise_iff (fun {_ _} hne => Ne.symm hne)).1 hap
 unfold mGet
 cases hf : M.find? (fun p => p.1.sameKey kl) with
 | some p =>
  have h1 := List.mem_of_find?_eq_some hf
  have h2 := List.find?_some hf
  have h3 : p.1 = kl := (WideAt.sameKey_iff hk).1 h2
  have h4 : (kl, DataW.lit p.2) ∈ l := hp.mem_iff.2 (List.mem_map.2 ⟨p, h1, by rw [h3]⟩)
  exact WideAt.atKey_mem (.lit z) hk hal h4
 | none =>
  have h0 := List.find?_eq_none.1 hf
  have h1 : l.find? (fun p => p.1.sameKey kl) = none := List.find?_eq_none.2 fun p hpl => by
   obtain ⟨q, hq, rfl⟩ := List.mem_map.1 (hp.mem_iff.1 hpl)
   exact h0 q hq
  simp only [DataW.atKey, h1]
theorem dents_del {l : List (Lit × DataW Unit)} (hp : l.Perm (dents M)) (kl : Lit) : (l.filter fun p => !p.1.sameKey kl).Perm (dents (mDel M kl)) := by
 have := hp.filter (fun p => !p.1.sameKey kl)
 refine this.trans (List.Perm.of_eq ?_)
 simp [dents, mDel, List.filter_map, Function.comp_def]
theorem insert_permD {x : Lit × DataW Unit} : ∀ l : List (Lit × DataW Unit), (DataW.insert x l).Perm (x :: l)
 | [] => .refl _
 | y :: r => by
  unfold DataW.insert
  split
  ·exact .refl _
  ·exact ((insert_permD r).cons y).trans (.swap ..)

theorem OwnM.made (W : World) (P : Program) (k e : TypeId) : OwnM P k e W.heap.size [] (W.alloc (.map #[] 0)) := ⟨0, [], World.ownsMap_made W P k _, .refl _⟩

theorem plainInv {v : Value} {d : Lit} {ps : List MemPlace} (h : plainElem (H := Unit) P e v = some (.lit d, ps)) : (∃ c, d = .bool c ∧ v = .bool c) ∨ (∃ q c, d = .int q c ∧ v = .int q c ∧ P.underlying e = some (.int q)) ∨ ∃ s, d = .string s := by
 unfold plainElem at h
 split at h
 ·cases h; exact .inl ⟨_, rfl, rfl⟩
 ·rename_i he
  split at h
  ·rename_i hc
   obtain ⟨rfl, _⟩ := hc
   cases h; exact .inr (.inl ⟨_, _, rfl, rfl, he⟩)
  ·cases h
 ·split at h
  ·cases h; exact .inr (.inr ⟨_, rfl⟩)
  ·cases h
 ·cases h
end

/-- What a key reads as, whatever the world. -/
def KeyA (P : Program) (k : TypeId) (x : AV) (kl : Lit) : Prop := ∀ R W v, RelV R W x v → keyOf P k v = some kl
theorem KeyA.int {P : Program} {k : TypeId} {q : IntKind} (hk : P.underlying k = some (.int q)) {a : Int} (hw : (Lit.int q a).wf = true) : KeyA P k (.val (.int q a)) (.int q a) := fun R W v h => by
 rw [h.val_inv]; exact Maps.keyOf_int_mk hk hw
class KeyT (P : Program) (k : Nat) : Prop where
 ax : Keyed P k
class ZeroT (P : Program) (e : Nat) (z : outParam Value) : Prop where
 ax : ∀ W, (zeroValue e).run P W = .ok z W
def mBool : Lit → Bool
 | .bool c => c
 | _ => false
def mInt : Lit → Int
 | .int _ c => c
 | _ => 0
theorem wfI64 {a : Int} (h : -9223372036854775808 ≤ a ∧ a ≤ 9223372036854775807) : (Lit.int .i64 a).wf = true := by
 simpa [Lit.wf, IntKind.min, IntKind.max, IntKind.signed, IntKind.bits] using h
def key2 (a b : Int) : Lit := .string (keyBytes [.int .i64 a, .int .i64 b])

section
variable {Γ : Cx} {P : Program} {Q : Exit → Act → World → Prop} {E : Env} {H : List HE} {N : Nat} {o : Oper} {ops : Array Oper} {rest : List Oper} {k e : TypeId}

def NewMap (P : Program) (k e : TypeId) : AV → List HE → Prop := fun v Hn => ∃ b, v = .val (.map (some b)) ∧ Hn = [mapHE P k e b []]
theorem O.makeMap {t : TypeId} [hd : TyD P t (.map k e)] (ho : o.op = .makeMap t none) : OpW P N o E H (NewMap P k e) := fun R a W h1 h2 h3 ha => by
 unfold Oper.wp
 have hr : (execOp a.eval o).run P W = .ok (.value (.map (some W.heap.size))) (W.alloc (.map #[] 0)) := by
  simp [execOp, ho, run_makeMap, Result.andThen]
 rw [hr]
 have hs : ∀ b, R b → (W.alloc (.map #[] 0)).heap[b]? = W.heap[b]? := fun b hb => Below.heap_alloc W _ b (h1 b hb)
 refine ⟨_, _, _, R, rfl, ⟨W.heap.size, rfl, rfl⟩, Mods.alloc (Mods.refl _ _) _, fun _ h => h, fun _ h => .inl h, .val _, ?_, by simp⟩
 intro e' he
 obtain rfl : e' = _ := by simpa using he
 refine ⟨mapHE_ok (OwnM.made W P k e), fun b hb => ?_⟩
 cases hb
 exact ⟨Nat.le_refl _, fun hh => by have := h1 _ hh; omega⟩

/-- m[k], elements bool. -/
theorem O.lookB {t : TypeId} {m x : Operand} {b : Nat} {M : Ents} {kv : AV} {kl : Lit} [hd : TyD P t (.map k e)] [he : TyD P e .bool] (ho : o.op = .lookup t m x false) (hm : ev E m = some (.val (.map (some b)))) (hx : ev E x = some kv) [K : KeyT P k] [hz : ZeroT P e (.bool false)] (hM : mapHE P k e b M ∈ H) (hk : KeyA P k kv kl) :
  OpW P N o E H (Is (.val (.bool (mBool (mGet M kl (.bool false)))))) := .of_run fun R a W h1 h2 ha => by
 have hown := (h2 _ hM).1
 obtain ⟨l, hw, hp⟩ := hown.size
 have hkey := hk R W _ (ha.ev hx)
 obtain ⟨v, ps, hrun, hv⟩ := hw.lookup K.ax hd.ax (hz.ax W) (plainElem_bool he.ax false) hkey
 rw [dents_get hp (hown.apart K.ax) (K.ax.key hkey)] at hv
 refine ⟨v, by simp [execOp, ho, (ha.ev hm).val_inv, hrun, Result.andThen], ?_⟩
 rcases plainInv hv with ⟨c, h3, rfl⟩ | ⟨q, c, h3, rfl, h4⟩ | ⟨s, h3⟩
 ·rw [h3]; exact .val _
 ·rw [he.ax] at h4; cases h4
 ·rw [h3] at hv
  unfold plainElem at hv
  rw [he.ax] at hv
  cases v <;> simp at hv

theorem mods_turned {W W' : World} {b : Nat} (h : W.mapTurned W' b) : Mods (fun c => c = b) W W' := by
 exact Mods.grown (Mods.refl _ _) h.grown (fun k hk _ => by cases hk; rfl)
/-- m[k] = v. -/
theorem AO.mapPut {t : TypeId} {m x v : Operand} {b i : Nat} {M : Ents} {kv : AV} {vv : Value} {kl vl : Lit} {H' : List HE} [hd : TyD P t (.map k e)] [K : KeyT P k] (ho : o.op = .mapUpdate t m x v) (hgd : o.guard = none) (hdst : o.dst = none) (hm : ev E m = some (.val (.map (some b)))) (hx : ev E x = some kv) (hv : ev E v = some (.val vv)) (hi : H[i]? = some (mapHE P k e b M)) (hk : KeyA P k kv kl) (hp : plainElem (H := Unit) P e vv = some (.lit vl, [])) (hn : M.length < maxLen)
  (hH : H.set i (mapHE P k e b (mPut M kl vl)) = H') (next : AO Γ P ops Q rest E H') : AO Γ P ops Q (o :: rest) E H := fun R a W hs ha => by
 have hown := (hs.ok _ (List.mem_of_getElem? hi)).1
 obtain ⟨l, hw, hpm⟩ := hown.size
 have hkey := hk R W _ (ha.ev hx)
 obtain ⟨W', hrun, hw', ht⟩ := hw.store K.ax hd.ax hn hkey hp
 unfold wpList
 rw [if_pos (by unfold Region.wanted; rw [hgd])]
 refine .inl ?_
 unfold Oper.wp
 have hex : (execOp a.eval o).run P W = .ok .skip W' := by simp [execOp, ho, (ha.ev hm).val_inv, (ha.ev hv).val_inv, hrun, Result.andThen]
 rw [hex]
 show wpList P ops Q rest (a.put o.dst undef) _
 rw [hdst]
 have hmods := mods_turned ht
 subst hH
 have hR : ∀ c, R c → W'.heap[c]? = W.heap[c]? := fun c hc => hmods.block c (hs.rlt c hc) fun hh => (hs.own _ (List.mem_of_getElem? hi) c hh).2 hc
 refine next R a W' (hs.setEntry hi hmods (fun c hc => .inl hc) (mapHE_ok ⟨_, _, hw', ?_⟩)) (ha.keep hR)
 exact (insert_permD _).trans ((dents_del hpm kl).cons _)
end
end Go.Proofs.YtoonnnifelnaiaaGreatDoor.A
