/-
  Over a symbolic state: writes, appends, calls, a function's beginning and end, and steps that change only what is known.
-/
import Derived.Test.YtiddmpmpjdnmeaaSd
namespace Go.Proofs.Ytiddmpmpjdnmeaa.A
open Go.RowKit L
set_option linter.unusedVariables false
set_option linter.unusedSimpArgs false

theorem Mods.setRow {S : Nat → Prop} {a w : World} (h : Mods S a w) {g : Nat} (hg : g < a.heap.size → S g) (cs : Array Value) : Mods S a (w.setRow g cs) :=
  ⟨h.os, h.tape, h.output, by simpa [World.setRow] using h.size, fun k hk hs => (setRow_other w g k cs (fun e => hs (e ▸ hg (e ▸ hk)))).trans (h.block k hk hs)⟩

theorem setCells_row (w : World) (g o : Nat) (vs : List Value) (cur : Array Value) (t : TypeId) (hg : w.heap[g]? = some (.cells cur t (0, 0))) (hfit : o + vs.length ≤ cur.size) (h1 : ∀ v ∈ vs, v.oneCell' = true) :
    w.setCells g o vs = w.setRow g (cur.toList.take o ++ vs ++ cur.toList.drop (o + vs.length)).toArray := by
  have a := run_storeCells_at (default : Program) g o t vs 0 cur w hg (by simpa using hfit) h1
  have b := run_storeCells_cells (P := (default : Program)) g o vs 0 w (fun j hj => by
    rw [cell_of_row w g (o + 0 + j) cur t (0, 0) hg]
    have : o + 0 + j < cur.size := by omega
    simp at this ⊢; omega) (fun j hj => by simp [World.frozen?, hg]) h1
  rw [a] at b
  simp only [Nat.add_zero] at b
  injection b with _ e
  exact e.symm

/-- The state after the block of one entry has got other cells. -/
theorem RelS.setEntry {Γ : Cx} {R : Nat → Prop} {H : List HE} {W W' : World} (h : RelS Γ R H W) {i : Nat} {e e' : HE} (hi : H[i]? = some e) (hm : Mods (fun b => e.foot b) W W') (hf : ∀ b, e'.foot b → e.foot b ∨ (W.heap.size ≤ b))
    (hok : e'.ok R W') : RelS Γ R (H.set i e') W' := by
  obtain ⟨hlt, rfl⟩ := List.getElem?_eq_some_iff.1 hi
  have hmem : H[i] ∈ H := List.getElem_mem hlt
  have hR : ∀ b, R b → W'.heap[b]? = W.heap[b]? := fun b hb => hm.block b (h.rlt b hb) fun hh => (h.own _ hmem b hh).2 hb
  have hother : ∀ j (hj : j < H.length), j ≠ i → ∀ b, H[j].foot b → ¬ H[i].foot b := fun j hj hji b hb hb' => by
    rcases Nat.lt_or_gt_of_ne hji with hlt' | hgt
    · exact (List.pairwise_iff_getElem.1 h.disj j i hj hlt hlt') b hb hb'
    · exact (List.pairwise_iff_getElem.1 h.disj i j hlt hj hgt) b hb' hb
  have hold : ∀ j (hj : j < H.length), j ≠ i → ∀ b, H[j].foot b → W'.heap[b]? = W.heap[b]? := fun j hj hji b hb =>
    hm.block b (HE.ok_lt (h.ok _ (List.getElem_mem hj)) hb) (hother j hj hji b hb)
  have hown' : ∀ b, e'.foot b → (Γ.w0.heap.size ≤ b ∨ Γ.S b) ∧ ¬ R b := fun b hb => by
    rcases hf b hb with h1 | h1
    · exact h.own _ hmem b h1
    · exact ⟨.inl (Nat.le_trans h.mods.size h1), fun hr => by have := h.rlt b hr; omega⟩
  refine ⟨Mods.then h.mods hm fun b hb hh => ?_, fun b hb => Nat.lt_of_lt_of_le (h.rlt b hb) hm.size, h.rsub, h.rnew, ?_, ?_, ?_⟩
  · rcases (h.own _ hmem b hh).1 with h1 | h1
    · omega
    · exact h1
  · intro f hfm
    obtain ⟨j, hj, rfl⟩ := List.getElem_of_mem hfm
    rw [List.length_set] at hj
    by_cases hji : i = j
    · subst hji; rw [List.getElem_set_self]; exact hok
    · rw [List.getElem_set_ne hji]
      exact HE.ok_mono (fun _ h => h) hR hm.size (hold j hj (Ne.symm hji)) (h.ok _ (List.getElem_mem hj))
  · intro f hfm b hb
    obtain ⟨j, hj, rfl⟩ := List.getElem_of_mem hfm
    rw [List.length_set] at hj
    by_cases hji : i = j
    · subst hji; rw [List.getElem_set_self] at hb; exact hown' b hb
    · rw [List.getElem_set_ne hji] at hb
      exact h.own _ (List.getElem_mem hj) b hb
  · rw [List.pairwise_iff_getElem]
    intro j k hj hk hjk b hb hb'
    rw [List.length_set] at hj hk
    have dis : ∀ m (hm' : m < H.length), m ≠ i → H[m].foot b → ¬ e'.foot b := fun m hm' hmi h1 h2 => by
      rcases hf b h2 with h3 | h3
      · exact hother m hm' hmi b h1 h3
      · have := HE.ok_lt (h.ok _ (List.getElem_mem hm')) h1; omega
    by_cases hij : i = j
    · subst hij
      rw [List.getElem_set_self] at hb
      rw [List.getElem_set_ne (by omega)] at hb'
      exact dis k hk (by omega) hb' hb
    · rw [List.getElem_set_ne hij] at hb
      by_cases hik : i = k
      · subst hik
        rw [List.getElem_set_self] at hb'
        exact dis j hj (Ne.symm hij) hb hb'
      · rw [List.getElem_set_ne hik] at hb'
        exact (List.pairwise_iff_getElem.1 h.disj j k hj hk hjk) b hb hb'

theorem RelA.keep {N : Nat} {R : Nat → Prop} {W W' : World} {E : Env} {a : Act} (h : RelA N R W E a) (hR : ∀ b, R b → W'.heap[b]? = W.heap[b]?) : RelA N R W' E a := h.mono (fun _ h => h) hR

section
variable {Γ : Cx} {P : Program} {Q : Exit → Act → World → Prop} {E : Env} {H : List HE} {N : Nat} {o : Oper} {ops : Array Oper} {rest : List Oper}

theorem splice_eq : ∀ (cs xs : List AV) (o : Nat), o + cs.length ≤ xs.length → splice xs o cs = xs.take o ++ cs ++ xs.drop (o + cs.length)
  | [], xs, o, h => by simp [splice]
  | c :: r, xs, o, h => by
    simp only [List.length_cons] at h
    rw [splice, splice_eq r _ (o + 1) (by simp; omega)]
    apply List.ext_getElem?
    intro k
    simp only [List.getElem?_append, List.length_append, List.length_take, List.length_set, List.getElem?_take, List.getElem?_drop, List.getElem?_set, List.length_cons]
    by_cases h1 : k < o
    · simp [h1, show k < o + 1 by omega, show min (o + 1) xs.length = o + 1 by omega, show min o xs.length = o by omega, show k < o + 1 + r.length by omega, show o ≠ k by omega, show k < o + (r.length + 1) by omega]
    · by_cases h2 : k = o
      · subst h2; simp [show min (k + 1) xs.length = k + 1 by omega, show min k xs.length = k by omega, show k < k + 1 + r.length by omega, show k < xs.length by omega]
      · by_cases h3 : k < o + 1 + r.length
        · simp [show min (o + 1) xs.length = o + 1 by omega, show min o xs.length = o by omega, h1, show ¬ k < o + 1 by omega, h3, show k < o + (r.length + 1) by omega]
          rw [show k - o = (k - (o + 1)) + 1 by omega]; simp
        · simp [show min (o + 1) xs.length = o + 1 by omega, show min o xs.length = o by omega, h1, show ¬ k < o + 1 by omega, h3, show ¬ k < o + (r.length + 1) by omega]
          rw [show k - (o + 1 + r.length) = k - (o + (r.length + 1)) by omega, show o + 1 + r.length + (k - (o + (r.length + 1))) = o + (r.length + 1) + (k - (o + (r.length + 1))) by omega]
          simp [show o ≠ o + (r.length + 1) + (k - (o + (r.length + 1))) by omega]

/-- A store into a block of the walk's own. -/
theorem AO.store {T : Nat} {p x : Operand} {b j : Nat} {v : AV} {i T' room k : Nat} {xs ys : List AV} {g : Bool} {H' : List HE} [hg : TyG P T g k] (ho : o.op = .store T p x) (hgd : o.guard = none) (hd : o.dst = none)
    (hp : ev E p = some (.val (.pointer (some ⟨b, j, none⟩)))) (hx : ev E x = some v) (hi : H[i]? = some (.blk b T' room xs)) (h1 : v.cells.all AV.one = true) (hk : v.cells.length = k) (hjk : Nat.ble (j + k) xs.length = true)
    (hy : splice xs j v.cells = ys) (hH : H.set i (.blk b T' room ys) = H') (next : AO Γ P ops Q rest E H') : AO Γ P ops Q (o :: rest) E H := fun R a W hs ha => by
  have hjk := Nat.le_of_ble_eq_true hjk
  obtain ⟨d, inf, hd1, hi1, hk1, hg1⟩ := hg.ax
  have hmem := List.mem_of_getElem? hi
  obtain ⟨us, cs, hb, hsz, ht, hr⟩ := hs.ok _ hmem
  have hrv := ha.ev hx
  have hc := hrv.cells (fun u hu => by
    subst hu
    simp only [AV.cells, List.all_cons, List.all_nil, Bool.and_true] at h1
    exact h1) (fun c y hu => by subst hu; cases h1)
  have hone := hc.all_one h1
  have hlen : (a.eval x).cells.toList.length = k := by rw [hc.1, hk]
  have hxs : xs.length ≤ cs.size := by
    have := hr.1
    have h5 : cs.toList.length = cs.size := Array.length_toList
    rw [← ht, List.length_take] at this; omega
  have hrun := run_storeCells_at (P := P) b j T' (a.eval x).cells.toList 0 cs W hb (by rw [hlen]; omega) hone
  have hex : (execOp a.eval o).run P W = .ok .skip (W.setRow b (cs.toList.take j ++ (a.eval x).cells.toList ++ cs.toList.drop (j + k)).toArray) := by
    simp only [execOp, ho, (ha.ev hp).val_inv, Instr.storeAt, Instr.sureAddr, Sem.run_bind, Sem.run_pure, Result.andThen_ok, storeVar, sizeOf, typeInfo, hi1]
    have h5 : (a.eval x).cells.size = inf.size := by rw [Array.length_toList] at hlen; omega
    simp only [run_program, Result.andThen_ok, hi1, Sem.run_pure, h5, ne_eq, not_true_eq_false, if_false]
    rw [hrun, hlen]
    simp
  unfold wpList
  rw [if_pos (by unfold Region.wanted; rw [hgd])]
  refine .inl ?_
  unfold Oper.wp
  rw [hex]
  show wpList P ops Q rest (a.put o.dst undef) _
  rw [hd]
  have hm : Mods (fun c => (HE.blk b T' room xs).foot c) W (W.setRow b (cs.toList.take j ++ (a.eval x).cells.toList ++ cs.toList.drop (j + k)).toArray) := Mods.setRow (S := fun c => (HE.blk b T' room xs).foot c) (Mods.refl _ _) (fun _ => rfl) _
  have hR : ∀ c, R c → (W.setRow b (cs.toList.take j ++ (a.eval x).cells.toList ++ cs.toList.drop (j + k)).toArray).heap[c]? = W.heap[c]? := fun c hc => hm.block c (hs.rlt c hc) fun hh => (hs.own _ hmem c hh).2 hc
  subst hH
  refine next R a _ (hs.setEntry hi hm (fun c hc => .inl hc) ?_) (ha.keep hR)
  refine ⟨_, _, setRow_heap W b cs _ T' _ hb, ?_, rfl, ?_⟩
  · rw [List.size_toArray, List.length_append, List.length_append, List.length_take, List.length_drop, Array.length_toList, hlen]; omega
  · rw [← hy, splice_eq _ _ _ (by rw [hk]; omega), hk]
    have e : (cs.toList.take j ++ (a.eval x).cells.toList ++ cs.toList.drop (j + k)).take (xs.take j ++ v.cells ++ xs.drop (j + k)).length = us.take j ++ (a.eval x).cells.toList ++ us.drop (j + k) := by
      have hul : us.length = xs.length := hr.1
      apply List.ext_getElem?
      intro q
      subst ht
      simp only [List.getElem?_take, List.getElem?_append, List.length_append, List.length_take, List.length_drop, hlen, hk, Array.length_toList, List.getElem?_drop]
      by_cases q1 : q < j
      · simp [q1, show q < xs.length by omega, show q < min j xs.length + k + (xs.length - (j + k)) by omega, show q < min j cs.size + k by omega, show q < min j cs.size by omega, show q < min j (min xs.length cs.size) + k by omega, show q < min j (min xs.length cs.size) by omega]
      · by_cases q2 : q < j + k
        · simp [show min j xs.length = j by omega, show min j cs.size = j by omega, show min xs.length cs.size = xs.length by omega, q1, q2, show q < j + k + (xs.length - (j + k)) by omega]
        · by_cases q3 : q < xs.length
          · simp [show min j xs.length = j by omega, show min j cs.size = j by omega, show min xs.length cs.size = xs.length by omega, q1, q2, show q < j + k + (xs.length - (j + k)) by omega, show j + k + (q - (j + k)) < xs.length by omega]
          · simp [show min j xs.length = j by omega, show min j cs.size = j by omega, show min xs.length cs.size = xs.length by omega, q1, q2, show ¬ q < j + k + (xs.length - (j + k)) by omega, show ¬ j + k + (q - (j + k)) < xs.length by omega]
    show RelL R _ _ (List.take _ (cs.toList.take j ++ (a.eval x).cells.toList ++ cs.toList.drop (j + k)))
    rw [e]
    exact (((hr.take j).app (by exact hc)).app (hr.drop (j + k))).mono (fun _ h => h) hR

/-! What is appended. -/

/-- The second argument of an append: n elements, these cells. -/
def SrcA (P : Program) (T sz : Nat) (H : List HE) (x : AV) (n : Nat) (ys : List AV) : Prop :=
  ys.length = n * sz ∧ ∀ R W u, (∀ e ∈ H, e.ok R W) → RelV R W x u → ∃ us, RelL R W ys us ∧ ((∀ v ∈ us, v.oneCell' = true) → Src P sz T u n us W)

theorem SrcA.ro {T U sz n : Nat} {full : Bool} {ys : List AV} (ht : P.underlying T = some (.slice U)) (hl : ys.length = n * sz) (hz : 0 < sz) : SrcA P T sz H (.ro full n ys) n ys := by
  refine ⟨hl, fun R W u _ hv => ?_⟩
  cases hv with
  | emp _ ad cap h1 h2 =>
    refine ⟨[], RelL.nil, fun _ => ?_⟩
    cases ad with
    | none => exact Src.ofNil W ht cap
    | some ad => exact Src.ofSlice W ht ad 0 cap [] (by simp) (fun j v h => by simp at h) (fun u h => by cases h)
  | ro _ _ _ b off cap us hb hc hr h1 h2 h3 =>
    refine ⟨(List.range ys.length).map us, ⟨by simp, fun j hj => ?_⟩, fun h9 => Src.ofSlice W ht ⟨b, off, none⟩ n cap _ (by simpa using hl) (fun j v h => ?_) h9⟩
    · have : ((List.range ys.length).map us).getD j undef = us j := by simp [List.getD, hj]
      rw [this]; exact hr j hj
    · obtain ⟨h4, rfl⟩ := List.getElem?_eq_some_iff.1 h
      simp at h4
      rw [addr_add]
      simpa using hc j h4
theorem SrcA.nil {T U sz : Nat} (ht : P.underlying T = some (.slice U)) : SrcA P T sz H (.val (.slice none 0 0)) 0 [] :=
  ⟨by simp, fun R W u _ hv => by rw [hv.val_inv]; exact ⟨[], RelL.nil, fun _ => Src.ofNil W ht 0⟩⟩
theorem SrcA.blk {T U sz n cap b off T' room : Nat} {xs ys : List AV} (ht : P.underlying T = some (.slice U)) (hm : HE.blk b T' room xs ∈ H) (hy : (xs.drop off).take (n * sz) = ys) (hl : ys.length = n * sz) : SrcA P T sz H (.val (.slice (some ⟨b, off, none⟩) n cap)) n ys := by
  refine ⟨hl, fun R W u hok hv => ?_⟩
  rw [hv.val_inv]
  obtain ⟨us, cs, hb, hsz, hts, hr⟩ := hok _ hm
  have hrl := (hr.drop off).take (n * sz)
  rw [hy] at hrl
  refine ⟨_, hrl, fun h9 => Src.ofSlice W ht ⟨b, off, none⟩ n cap _ (by rw [hrl.1, hl]) (fun j v h => ?_) h9⟩
  rw [addr_add, cell_of_row W b (off + j) cs T' (0, 0) hb]
  rw [List.getElem?_take] at h
  split at h
  · rw [List.getElem?_drop, ← hts, List.getElem?_take] at h
    split at h
    · simpa using h
    · cases h
  · cases h
theorem SrcA.row {T U T' sz n : Nat} {v : Value} {ys : List AV} (ht : P.underlying T = some (.slice U)) (hm : HE.row v T' sz n ys ∈ H) (hl : ys.length = n * sz) : SrcA P T sz H (.val v) n ys := by
  refine ⟨hl, fun R W u hok hv => ?_⟩
  rw [hv.val_inv]
  obtain ⟨us, hw, hr⟩ := hok _ hm
  refine ⟨us, hr, fun h9 => ?_⟩
  rcases hw.2 with ⟨rfl, rfl⟩ | ⟨g, cap, cur, rfl, hbg, hg, h1, h2, h3, h4⟩
  · have : us = [] := List.eq_nil_of_length_eq_zero (by simpa using hw.1)
    subst this
    exact Src.ofNil W ht 0
  · exact Src.ofSlice W ht ⟨g, 0, none⟩ n cap us (by rw [hr.1, hl]) (hw.cells (g := g) rfl) h9
theorem SrcA.str {T : Nat} {s : ByteArray} {ys : List AV} (ht : P.underlying T = some .string) (hy : (byteCells s).map .val = ys) : SrcA P T 1 H (.val (.string s)) s.size ys :=
  ⟨by subst hy; rw [List.length_map, byteCells_length, Nat.mul_one], fun R W u hok hv => by
    rw [hv.val_inv]
    subst hy
    exact ⟨byteCells s, relL_vals R W _, fun _ => Src.ofString W ht s⟩⟩

/-- An append to a row of the walk's own. -/
theorem run_append_row {T U T2 k bs : Nat} {z : Value} (hs : TyS P T U k bs z) (hz : z.cells.size = k) (hk : 0 < k) {W : World} {v : Value} {n m : Nat} {us news : List Value} (hown : W.ownsRow 0 U k v n us) {x : Value} (hsrc : Src P k T2 x m news W)
    (h63 : n + m ≤ maxLen) (hby : (n + m) * bs ≤ 140737488355328) (ty : TypeId) :
    ∃ v' W', (Builtin.append_ #[T, T2] ty #[v, x]).run P W = .ok v' W' ∧ W'.ownsRow 0 U k v' (n + m) (us ++ news) ∧ W.grownBy W' v.ownBlock ∧ (v'.ownBlock = v.ownBlock ∨ v'.ownBlock = some W.heap.size) ∧ v'.oneCell' = true := by
  obtain ⟨i, hi, hik, hib, hiz⟩ := hs.el
  have hsmall : n + m ≤ 9223372036854775807 := by simp only [maxLen] at h63; omega
  have hlen : (us ++ news).length = (n + m) * k := by rw [List.length_append, hown.1, hsrc.newsLen, Nat.add_mul]
  have hsrc' : Src P i.size T2 x m news W := by rw [hik]; exact hsrc
  have grown : ∀ (old : Nat), old < n + m → ∀ (row : Option Nat),
      (W.drew.alloc (.cells ((us ++ news).toArray ++ Builtin.zeroCells z.cells (grownCap W (n + m) old U - (n + m))) U)).ownsRow 0 U k
        (.slice (some ⟨W.heap.size, 0, none⟩) (n + m) (grownCap W (n + m) old U)) (n + m) (us ++ news) ∧
      W.grownBy (W.drew.alloc (.cells ((us ++ news).toArray ++ Builtin.zeroCells z.cells (grownCap W (n + m) old U - (n + m))) U)) row := by
    intro old ho row
    have hge := grownCap_ge W (n + m) old U
    have hcm : grownCap W (n + m) old U ≤ maxLen := grownCap_le_maxLen W (n + m) old U h63
    refine ⟨⟨hlen, .inr ⟨W.heap.size, _, _, rfl, Nat.zero_le _, heap_alloc_new W.drew _, hge, hcm, ?_, ?_⟩⟩, ⟨rfl, rfl, rfl, by simp, fun q hq _ => Below.heap_alloc W.drew _ q hq⟩⟩
    · rw [Array.size_append, List.size_toArray, size_zeroCells, hz, hlen, ← Nat.add_mul]
      congr 1
      omega
    · rw [Array.toList_append, ← hlen]
      exact List.take_left
  rcases hown.2 with ⟨rfl, rfl⟩ | ⟨g, cap, cur, rfl, hbg, hg, hnc, hcm, hcs, htake⟩
  · have hx : us = [] := List.eq_nil_of_length_eq_zero (by simpa using hown.1)
    subst hx
    by_cases hm : m = 0
    · subst hm
      have hn : news = [] := List.eq_nil_of_length_eq_zero (by simpa using hsrc.newsLen)
      subst hn
      exact ⟨_, _, run_append_nothing (P := P) W T T2 ty U i hs.ty hi none 0 0 (Nat.le_refl _) x hsrc', World.ownsRow_nil .., ⟨rfl, rfl, rfl, Nat.le_refl _, fun _ _ _ => rfl⟩, .inl rfl, rfl⟩
    · have hr := run_append_grow_src (P := P) W T T2 ty U i z hs.ty hi hiz none 0 0 [] (by simp [Builtin.firstCells]) x m news hsrc' (by omega) (by omega) (growslice_fits (by omega) (by rw [hib]; exact hby))
      have hgr := grown 0 (by omega) (Value.ownBlock (.slice none 0 0))
      simp only [List.nil_append] at hgr hr ⊢
      exact ⟨_, _, hr, hgr.1, hgr.2, .inr rfl, rfl⟩
  · by_cases hroom : n + m ≤ cap
    · have hfit : n * k + news.length ≤ cur.size := by rw [hsrc.newsLen, hcs, ← Nat.add_mul]; exact Nat.mul_le_mul_right _ hroom
      have hr := run_append_room_src (P := P) W T T2 ty U i hs.ty hi g 0 n cap x m news hsrc' hroom (fun j hj => by
        rw [cell_of_row W g _ cur U (0, 0) hg]
        have : 0 + n * i.size + j < cur.size := by rw [hik]; omega
        simp at this ⊢; omega) (fun j hj => by simp [World.frozen?, hg])
      rw [hik, Nat.zero_add, setCells_row W g (n * k) news cur U hg hfit hsrc.one] at hr
      refine ⟨_, _, hr, ⟨hlen, .inr ⟨g, cap, _, rfl, Nat.zero_le _, setRow_heap W g cur _ U _ hg, hroom, hcm, ?_, ?_⟩⟩, ⟨rfl, rfl, rfl, by simp [World.setRow], fun q _ hq => setRow_other W g q _ (fun e => hq (by simp [Value.ownBlock, e]))⟩, .inl rfl, rfl⟩
      · simp only [List.size_toArray, List.length_append, List.length_take, List.length_drop, Array.length_toList]
        omega
      · show List.take _ (cur.toList.take (n * k) ++ news ++ cur.toList.drop (n * k + news.length)) = _
        rw [htake, ← hlen]
        exact List.take_left
    · have holds : (Builtin.firstCells i.size n (.slice (some ⟨g, 0, none⟩) n cap)).run P W.drew = .ok us.toArray W.drew := by
        have := run_firstCells_some (P := P) W.drew i.size n ⟨g, 0, none⟩ n cap us (by rw [hik]; exact hown.1) (by simpa using hown.cells (g := g) rfl)
        exact this
      have hr := run_append_grow_src (P := P) W T T2 ty U i z hs.ty hi hiz (some ⟨g, 0, none⟩) n cap us holds x m news hsrc' (by omega) (by omega) (growslice_fits (by omega) (by rw [hib]; exact hby))
      have hgr := grown cap (by omega) (Value.ownBlock (.slice (some ⟨g, 0, none⟩) n cap))
      exact ⟨_, _, hr, hgr.1, hgr.2, .inr rfl, rfl⟩

theorem append_exec {T T2 : Nat} {s x : Operand} (ho : o.op = .call { callee := .builtin .append, args := #[s, x], argTypes := #[T, T2] }) {a : Act} {W W' : World} {v' : Value} (hr : (Builtin.append_ #[T, T2] o.type #[a.eval s, a.eval x]).run P W = .ok v' W') :
    (execOp a.eval o).run P W = .ok (.value v') W' := by
  simp only [execOp, ho, resolve, invoke, builtin, Sem.run_bind, Sem.run_pure, Result.andThen_ok, List.map_toArray, List.map_cons, List.map_nil, hr]

theorem AO.append {T T2 U k bs d : Nat} {z : Value} {s x : Operand} {v : Value} {w : AV} {i n m : Nat} {xs ys : List AV} [hs : TyS P T U k bs z] (ho : o.op = .call { callee := .builtin .append, args := #[s, x], argTypes := #[T, T2] }) (hgd : o.guard = none) (hd : o.dst = some d) (hN : d < Γ.N)
    (hz : Nat.beq z.cells.size k = true) (hk : Nat.ble 1 k = true) (hv : ev E s = some (.val v)) (hx : ev E x = some w) (hi : H[i]? = some (.row v U k n xs)) (hsrc : SrcA P T2 k H w m ys) (hone : ys.all AV.one = true) (hn : n + m ≤ maxLen) (hby : (n + m) * bs ≤ 140737488355328)
    (next : ∀ v' : Value, v'.oneCell' = true → AO Γ P ops Q rest ((d, .val v') :: E) (H.set i (.row v' U k (n + m) (xs ++ ys)))) : AO Γ P ops Q (o :: rest) E H := fun R a W hs' ha => by
  have hmem := List.mem_of_getElem? hi
  obtain ⟨us, hown, hr⟩ := hs'.ok _ hmem
  obtain ⟨news, h1, h2⟩ := hsrc.2 R W (a.eval x) hs'.ok (ha.ev hx)
  obtain ⟨v', W', hrun, hown', hgr, hblk, h1c⟩ := run_append_row hs (Nat.eq_of_beq_eq_true hz) (Nat.le_of_ble_eq_true hk) hown (h2 (h1.all_one hone)) hn hby o.type
  unfold wpList
  rw [if_pos (by unfold Region.wanted; rw [hgd])]
  refine .inl ?_
  unfold Oper.wp
  rw [append_exec ho (by rw [(ha.ev hv).val_inv]; exact hrun)]
  show wpList P ops Q rest (a.put o.dst v') W'
  rw [hd]
  have hm : Mods (fun c => (HE.row v U k n xs).foot c) W W' := Mods.grown (Mods.refl _ _) hgr fun c hc _ => hc
  have hR : ∀ c, R c → W'.heap[c]? = W.heap[c]? := fun c hc => hm.block c (hs'.rlt c hc) fun hh => (hs'.own _ hmem c hh).2 hc
  refine next v' h1c R _ W' (hs'.setEntry hi hm (fun c hc => ?_) ⟨_, hown', (hr.app h1).mono (fun _ h => h) hR⟩) ((ha.keep hR).put hN (.val _))
  rcases hblk with hb | hb
  · exact .inl (by rw [HE.foot] at hc ⊢; rw [← hb]; exact hc)
  · rw [HE.foot, hb] at hc; cases hc; exact .inr (Nat.le_refl _)

def NewRow (U k n : Nat) (xs : List AV) : AV → List HE → Prop := fun v' Hn => ∃ v : Value, v' = .val v ∧ v.oneCell' = true ∧ Hn = [.row v U k n xs]

/-- An append to nil. -/
theorem O.appendNil {T T2 U k bs : Nat} {z : Value} {s x : Operand} {w : AV} {m : Nat} {ys : List AV} [hs : TyS P T U k bs z] (ho : o.op = .call { callee := .builtin .append, args := #[s, x], argTypes := #[T, T2] })
    (hz : Nat.beq z.cells.size k = true) (hk : Nat.ble 1 k = true) (hv : ev E s = some (.val (.slice none 0 0))) (hx : ev E x = some w) (hsrc : SrcA P T2 k H w m ys) (hone : ys.all AV.one = true) (hn : m ≤ maxLen) (hby : m * bs ≤ 140737488355328) :
    OpW P N o E H (NewRow U k m ys) := fun R a W h0 h2 h3 ha => by
  obtain ⟨news, h4, h5⟩ := hsrc.2 R W (a.eval x) h2 (ha.ev hx)
  obtain ⟨v', W', hrun, hown', hgr, hblk, h1c⟩ := run_append_row hs (Nat.eq_of_beq_eq_true hz) (Nat.le_of_ble_eq_true hk) (World.ownsRow_nil W 0 U k) (h5 (h4.all_one hone)) (by omega) (by rw [Nat.zero_add]; exact hby) o.type
  unfold Oper.wp
  rw [append_exec ho (by rw [(ha.ev hv).val_inv]; exact hrun)]
  have hm : Ext W W' := Mods.grown (Mods.refl _ _) hgr fun c hc _ => by cases hc
  rw [Nat.zero_add, List.nil_append] at hown'
  refine ⟨v', .val v', _, R, rfl, ⟨v', rfl, h1c, rfl⟩, hm, fun _ h => h, fun _ h => .inl h, .val _, ?_, by simp⟩
  intro e he
  obtain rfl : e = _ := by simpa using he
  refine ⟨⟨news, hown', h4.mono (fun _ h => h) (extSame hm h0)⟩, fun c hc => ?_⟩
  rcases hblk with hb | hb
  · rw [HE.foot, hb] at hc; cases hc
  · rw [HE.foot, hb] at hc; cases hc
    exact ⟨Nat.le_refl _, fun h => by have := h0 _ h; omega⟩

/-! ### What is known, told in other words -/

theorem G.freezeRow {X : Act → World → Prop} (i : Nat) {v : Value} {T sz n : Nat} {xs : List AV} (hi : H[i]? = some (.row v T sz n xs)) (ts : List Nat) (ht : ∀ t ∈ ts, look E t = some (.val v)) (k : G Γ (ts.map (·, .ro false n xs) ++ E) (H.eraseIdx i) X) : G Γ E H X := fun R a W hs ha => by
  have hmem := List.mem_of_getElem? hi
  obtain ⟨hlt, he⟩ := List.getElem?_eq_some_iff.1 hi
  have hsub : (H.eraseIdx i).Sublist H := List.eraseIdx_sublist _ _
  have hdis : ∀ f ∈ H.eraseIdx i, ∀ b, f.foot b → ¬ (HE.row v T sz n xs).foot b := fun f hf b hb hb' => by
    obtain ⟨j, hj, rfl⟩ := List.getElem_of_mem hf
    rw [List.getElem_eraseIdx] at hb
    rw [List.length_eraseIdx, if_pos hlt] at hj
    split at hb
    · exact (List.pairwise_iff_getElem.1 hs.disj j i (by omega) hlt (by omega)) b hb (by rw [he]; exact hb')
    · exact (List.pairwise_iff_getElem.1 hs.disj i (j + 1) hlt (by omega) (by omega)) b (by rw [he]; exact hb') hb
  have hRS : ∀ b, R b → R b ∨ (HE.row v T sz n xs).foot b := fun b h => .inl h
  obtain ⟨us, hown, hr⟩ := hs.ok _ hmem
  refine k (fun b => R b ∨ (HE.row v T sz n xs).foot b) a W ⟨hs.mods, ?_, fun b hb => .inl (hs.rsub b hb), ?_, fun e he => HE.ok_mono hRS (fun _ _ => rfl) (Nat.le_refl _) (fun _ _ => rfl) (hs.ok e (hsub.subset he)), ?_, hs.disj.sublist hsub⟩ ?_
  · rintro b (hb | hb)
    · exact hs.rlt b hb
    · exact HE.ok_lt (hs.ok _ hmem) hb
  · rintro b (hb | hb)
    · exact hs.rnew b hb
    · exact .inr (hs.own _ hmem b hb).1
  · intro e he b hb
    refine ⟨(hs.own e (hsub.subset he) b hb).1, ?_⟩
    rintro (h | h)
    · exact (hs.own e (hsub.subset he) b hb).2 h
    · exact hdis e he b hb h
  · have hA : RelA Γ.N (fun b => R b ∨ (HE.row v T sz n xs).foot b) W E a := ha.mono hRS (fun _ _ => rfl)
    have hV : RelV (fun b => R b ∨ (HE.row v T sz n xs).foot b) W (.ro false n xs) v := by
      have hr' := hr.mono hRS (W' := W) (fun _ _ => rfl)
      rcases hown.2 with ⟨rfl, rfl⟩ | ⟨g, cap, cur, rfl, hbg, hg, h1, h2, h3, h4⟩
      · have : xs = [] := List.eq_nil_of_length_eq_zero (by rw [← hr.1, hown.1]; simp)
        subst this
        exact .emp _ _ _ (fun h => by cases h) (Nat.zero_le _)
      · refine .ro false n xs g 0 cap (fun j => us.getD j undef) (.inr rfl) (fun j hj => ?_) (fun j hj => hr'.2 j hj) h1 h2 (fun h => by cases h)
        have hj' : j < us.length := by rw [hr.1]; exact hj
        have := hown.cells (g := g) rfl j us[j] (by simp [hj'])
        rw [addr_add] at this
        rw [this]
        simp [List.getD, hj']
    clear k
    induction ts with
    | nil => exact hA
    | cons t ts ih =>
      refine ⟨hA.defers, hA.size, fun t' w hw => ?_⟩
      simp only [List.map_cons, List.cons_append] at hw
      unfold look at hw
      cases hb : Nat.beq t t' with
      | true =>
        rw [hb] at hw
        have := Nat.eq_of_beq_eq_true hb
        subst this
        cases hw
        have h9 := (hA.slots t _ (ht t (List.mem_cons_self ..))).val_inv
        rw [h9]; exact hV
      | false =>
        rw [hb] at hw
        exact (ih fun t ht' => ht t (List.mem_cons_of_mem _ ht')).slots t' w hw

theorem RelS.setSame {R : Nat → Prop} {W : World} (h : RelS Γ R H W) {i : Nat} {e e' : HE} (hi : H[i]? = some e) (hf : ∀ b, e'.foot b → e.foot b) (hok : e'.ok R W) : RelS Γ R (H.set i e') W :=
  h.setEntry hi (Mods.refl _ _) (fun b hb => .inl (hf b hb)) hok

/-- A row that is not empty is a block. -/
theorem G.openRow {X : Act → World → Prop} (i : Nat) {v : Value} {T sz n : Nat} {xs : List AV} (hi : H[i]? = some (.row v T sz n xs)) (hn : 0 < n)
    (k : ∀ b cap, n ≤ cap → cap ≤ maxLen → xs.length = n * sz → v = .slice (some ⟨b, 0, none⟩) n cap → G Γ E (H.set i (.blk b T (cap * sz) xs)) X) : G Γ E H X := fun R a W hs ha => by
  have hmem := List.mem_of_getElem? hi
  obtain ⟨us, hown, hr⟩ := hs.ok _ hmem
  rcases hown.2 with ⟨rfl, rfl⟩ | ⟨g, cap, cur, rfl, hbg, hg, h1, h2, h3, h4⟩
  · omega
  · have hl : xs.length = n * sz := by rw [← hr.1, hown.1]
    refine k g cap h1 h2 hl rfl R a W (hs.setSame hi (fun b hb => ?_) ⟨us, cur, hg, h3, by rw [hl]; exact h4, hr⟩) ha
    cases hb; rfl
/-- A block, from its head on, is a row. -/
theorem G.closeRow {X : Act → World → Prop} (i : Nat) {b T room sz n cap : Nat} {xs : List AV} (hi : H[i]? = some (.blk b T room xs)) (hl : xs.length = n * sz) (hr : cap * sz = room) (hn : n ≤ cap) (hc : cap ≤ maxLen)
    (k : G Γ E (H.set i (.row (.slice (some ⟨b, 0, none⟩) n cap) T sz n xs)) X) : G Γ E H X := fun R a W hs ha => by
  have hmem := List.mem_of_getElem? hi
  obtain ⟨us, cs, hb, hsz, ht, hrl⟩ := hs.ok _ hmem
  refine k R a W (hs.setSame hi (fun c hc => ?_) ⟨us, ⟨by rw [hrl.1, hl], .inr ⟨b, cap, cs, rfl, Nat.zero_le _, hb, hn, hc, by omega, by rw [← hl]; exact ht⟩⟩, hrl⟩) ha
  have : some b = some c := hc
  cases this; rfl
/-- nil is an empty row. -/
theorem G.nilRow {X : Act → World → Prop} (T sz : Nat) (k : G Γ E (.row (.slice none 0 0) T sz 0 [] :: H) X) : G Γ E H X := fun R a W hs ha =>
  k R a W ⟨hs.mods, hs.rlt, hs.rsub, hs.rnew, fun e he => by
      rcases List.mem_cons.1 he with rfl | he
      · exact ⟨[], World.ownsRow_nil .., RelL.nil⟩
      · exact hs.ok e he, fun e he b hb => by
      rcases List.mem_cons.1 he with rfl | he
      · cases hb
      · exact hs.own e he b hb, List.pairwise_cons.2 ⟨fun f _ b hb => (by cases hb), hs.disj⟩⟩ ha
/-- A row's value is one cell. -/
theorem G.rowOne {X : Act → World → Prop} {v : Value} {T sz n : Nat} {xs : List AV} (hi : .row v T sz n xs ∈ H) (k : v.oneCell' = true → xs.length = n * sz → n ≤ maxLen → G Γ E H X) : G Γ E H X := fun R a W hs ha => by
  obtain ⟨us, hown, hr⟩ := hs.ok _ hi
  have hl : xs.length = n * sz := by rw [← hr.1, hown.1]
  rcases hown.2 with ⟨rfl, rfl⟩ | ⟨g, cap, cur, rfl, hbg, hg, h1, h2, h3, h4⟩
  · exact k rfl hl (Nat.zero_le _) R a W hs ha
  · exact k rfl hl (by omega) R a W hs ha
/-- The length of a slice is an int. -/
theorem G.lenRo {X : Act → World → Prop} {t : Nat} {full : Bool} {n : Nat} {xs : List AV} (ht : look E t = some (.ro full n xs)) (k : n ≤ maxLen → G Γ E H X) : G Γ E H X := fun R a W hs ha => by
  have := ha.slots t _ ht
  generalize a.eval (.tmp t) = u at *
  cases this with
  | emp _ _ _ _ _ => exact k (Nat.zero_le _) R a W hs ha
  | ro _ _ _ b off cap us hb hc hr h1 h2 h3 => exact k (by omega) R a W hs ha

/-- A block that is written no more: pointers into it, and slices from its head. -/
def Thaw (b : Nat) (xs : List AV) (E : Env) (p : Nat × AV) : Prop :=
  (∃ o, look E p.1 = some (.val (.pointer (some ⟨b, o, none⟩))) ∧ p.2 = .rp xs o) ∨
  (∃ n cap, look E p.1 = some (.val (.slice (some ⟨b, 0, none⟩) n cap)) ∧ p.2 = .ro (Nat.beq n cap) n xs ∧ n ≤ cap ∧ cap ≤ maxLen)
theorem G.freezeBlk {X : Act → World → Prop} (i : Nat) {b T room : Nat} {xs : List AV} (hi : H[i]? = some (.blk b T room xs)) (E1 : Env) (h1 : ∀ p ∈ E1, Thaw b xs E p) (k : G Γ (E1 ++ E) (H.eraseIdx i) X) : G Γ E H X := fun R a W hs ha => by
  have hmem := List.mem_of_getElem? hi
  obtain ⟨hlt, he⟩ := List.getElem?_eq_some_iff.1 hi
  have hsub : (H.eraseIdx i).Sublist H := List.eraseIdx_sublist _ _
  have hdis : ∀ f ∈ H.eraseIdx i, ∀ c, f.foot c → ¬ c = b := fun f hf c hb hb' => by
    obtain ⟨j, hj, rfl⟩ := List.getElem_of_mem hf
    rw [List.getElem_eraseIdx] at hb
    rw [List.length_eraseIdx, if_pos hlt] at hj
    split at hb
    · exact (List.pairwise_iff_getElem.1 hs.disj j i (by omega) hlt (by omega)) c hb (by rw [he]; exact hb')
    · exact (List.pairwise_iff_getElem.1 hs.disj i (j + 1) hlt (by omega) (by omega)) c (by rw [he]; exact hb') hb
  have hRS : ∀ c, R c → R c ∨ c = b := fun b h => .inl h
  obtain ⟨us, cs, hb, hsz, ht, hr⟩ := hs.ok _ hmem
  have hcell : ∀ j, j < xs.length → W.cell? ⟨b, j, none⟩ = some (us.getD j undef) := fun j hj => by
    have hj' : j < us.length := by rw [hr.1]; exact hj
    rw [cell_of_row W b j cs T (0, 0) hb]
    have : us[j]? = cs[j]? := by rw [← ht, List.getElem?_take, if_pos hj]; simp
    rw [← this]; simp [List.getD, hj']
  refine k (fun c => R c ∨ c = b) a W ⟨hs.mods, ?_, fun b hb => .inl (hs.rsub b hb), ?_, fun e he => HE.ok_mono hRS (fun _ _ => rfl) (Nat.le_refl _) (fun _ _ => rfl) (hs.ok e (hsub.subset he)), ?_, hs.disj.sublist hsub⟩ ?_
  · rintro c (hc | rfl)
    · exact hs.rlt c hc
    · exact HE.ok_lt (hs.ok _ hmem) rfl
  · rintro c (hc | rfl)
    · exact hs.rnew c hc
    · exact .inr (hs.own _ hmem c rfl).1
  · intro e he c hc
    refine ⟨(hs.own e (hsub.subset he) c hc).1, ?_⟩
    rintro (h | h)
    · exact (hs.own e (hsub.subset he) c hc).2 h
    · exact hdis e he c hc h
  · have hA : RelA Γ.N (fun c => R c ∨ c = b) W E a := ha.mono hRS (fun _ _ => rfl)
    have hr' : RelL (fun c => R c ∨ c = b) W xs us := hr.mono hRS (fun _ _ => rfl)
    have hV : ∀ p ∈ E1, RelV (fun c => R c ∨ c = b) W p.2 (a.eval (.tmp p.1)) := fun p hp => by
      rcases h1 p hp with ⟨o, h2, h3⟩ | ⟨n, cap, h2, h3, h4, h5⟩
      · rw [h3, (hA.slots _ _ h2).val_inv]
        have := RelV.rp (R := fun c => R c ∨ c = b) (W := W) xs o b 0 (fun j => us.getD j undef) (.inr rfl) (fun j hj => by rw [Nat.zero_add]; exact hcell j hj) hr'.2
        rwa [Nat.zero_add] at this
      · rw [h3, (hA.slots _ _ h2).val_inv]
        refine .ro _ n xs b 0 cap (fun j => us.getD j undef) (.inr rfl) (fun j hj => by rw [Nat.zero_add]; exact hcell j hj) hr'.2 h4 h5 (fun h => (Nat.eq_of_beq_eq_true h).symm)
    clear k h1
    induction E1 with
    | nil => exact hA
    | cons p E1 ih =>
      obtain ⟨t, w0⟩ := p
      refine ⟨hA.defers, hA.size, fun t' w hw => ?_⟩
      simp only [List.cons_append] at hw
      unfold look at hw
      cases hb : Nat.beq t t' with
      | true =>
        rw [hb] at hw
        have := Nat.eq_of_beq_eq_true hb
        subst this
        cases hw
        exact hV _ (List.mem_cons_self ..)
      | false =>
        rw [hb] at hw
        exact (ih fun p hp => hV p (List.mem_cons_of_mem _ hp)).slots t' w hw

/-! ### Calls -/

def footOf (H : List HE) : Nat → Prop := fun b => ∃ e ∈ H, e.foot b

/-- What a function does, whatever the world: arguments that read so, blocks that it may write; the yield, and the blocks that are the caller's afterwards. -/
def Sp (P : Program) (f : FuncId) (args : List AV) (H0 : List HE) (Post : AV → List HE → Prop) : Prop :=
  ∀ (W : World) (R : Nat → Prop) (us : List Value), (∀ b, R b → b < W.heap.size) → (∀ e ∈ H0, e.ok R W ∧ ∀ b, e.foot b → ¬ R b) → H0.Pairwise Disj → RelL R W args us →
    Calls P f us.toArray W fun e W' => ∃ u r H' R', e = .returned u ∧ Post r H' ∧ RelS ⟨W, footOf H0, R, 0⟩ R' H' W' ∧ RelV R' W' r u

theorem Sp.mono {f : FuncId} {args : List AV} {H0 : List HE} {Post Post' : AV → List HE → Prop} (h : Sp P f args H0 Post) (hp : ∀ r H, Post r H → Post' r H) : Sp P f args H0 Post' := fun W R us h1 h2 h3 h4 =>
  (h W R us h1 h2 h3 h4).mono fun e W' ⟨u, r, H', R', h5, h6, h7, h8⟩ => ⟨u, r, H', R', h5, hp _ _ h6, h7, h8⟩

def envOf : Nat → List AV → Env
  | _, [] => []
  | k, v :: r => (k, v) :: envOf (k + 1) r

def FnQ (Γ : Cx) (P : Program) (fn : Func) (Post : AV → List HE → Prop) : Exit → Act → World → Prop :=
  bodyPost P fn fun e W' => ∃ u r H' R', e = .returned u ∧ Post r H' ∧ RelS ⟨Γ.w0, Γ.S, Γ.R0, 0⟩ R' H' W' ∧ RelV R' W' r u

theorem Sp.enter {f : FuncId} {args : List AV} {H0 : List HE} {Post : AV → List HE → Prop} {fn : Func} {c : Code} (hf : P.funcs[f]? = some fn) (hb : fn.body = some c) (n : Nat) (hn : fn.ntmps = n) (hl : Nat.ble args.length n = true)
    (h : ∀ w0 R0, AW ⟨w0, footOf H0, R0, n⟩ P (FnQ ⟨w0, footOf H0, R0, n⟩ P fn Post) c (envOf 0 args) H0) : Sp P f args H0 Post := fun W R us h1 h2 h3 h4 => by
  refine calls_of_wp hf hb (h W R R _ W ⟨Mods.refl _ _, h1, fun _ h => h, fun _ h => .inl h, fun e he => (h2 e he).1, fun e he b hb => ⟨.inr ⟨e, he, hb⟩, (h2 e he).2 b hb⟩, h3⟩ ⟨rfl, ?_, ?_⟩)
  · have := Nat.le_of_ble_eq_true hl
    have h5 := h4.1
    simp [hn]; omega
  · intro t v ht
    have key : ∀ (args : List AV) (k : Nat), look (envOf k args) t = some v → k ≤ t ∧ args[t - k]? = some v := by
      intro args
      induction args with
      | nil => intro k h; cases h
      | cons x r ih =>
        intro k h
        unfold envOf look at h
        cases hb : Nat.beq k t with
        | true =>
          rw [hb] at h
          have := Nat.eq_of_beq_eq_true hb
          subst this
          cases h
          exact ⟨Nat.le_refl _, by simp⟩
        | false =>
          rw [hb] at h
          obtain ⟨h5, h6⟩ := ih (k + 1) h
          refine ⟨by omega, ?_⟩
          rw [show t - k = (t - (k + 1)) + 1 by omega]
          simpa using h6
    obtain ⟨_, h5⟩ := key args 0 ht
    obtain ⟨u, h6, h7⟩ := h4.get (j := t) (by simpa using h5)
    have ht' : t < us.length := (List.getElem?_eq_some_iff.1 h6).1
    have hu : us[t] = u := (List.getElem?_eq_some_iff.1 h6).2
    have : Act.eval { tmps := us.toArray ++ Array.replicate (fn.ntmps - us.toArray.size) undef, defers := [] } (.tmp t) = u := by
      simp only [Act.eval, Array.getD]
      rw [dif_pos (by simp; omega)]
      simp [Array.getElem_append, ht', hu]
    rw [this]; exact h7

theorem AQ.ret1 {fn : Func} {Post : AV → List HE → Prop} {t : Nat} {r : AV} {H' : List HE} (hr : fn.results = #[.tmp t]) (ht : look E t = some r) (hH : ∃ H1, H1.Sublist H ∧ H'.Perm H1) (hp : Post r H') : AQ Γ (FnQ Γ P fn Post) .ret E H := fun R a W hs ha => by
  obtain ⟨H1, h1, h2⟩ := hH
  refine ⟨ha.defers, a.eval (.tmp t), ?_, _, r, H', R, rfl, hp, ?_, ha.slots t r ht⟩
  · simp [results, hr, Act.eval]
  · have := (hs.sub h1).perm h2
    exact ⟨this.mods, this.rlt, this.rsub, this.rnew, this.ok, this.own, this.disj⟩
theorem AQ.ret2 {fn : Func} {Post : AV → List HE → Prop} {t s : Nat} {r q : AV} {H' : List HE} (hr : fn.results = #[.tmp t, .tmp s]) (ht : look E t = some r) (hs' : look E s = some q) (hH : ∃ H1, H1.Sublist H ∧ H'.Perm H1) (hp : Post (.tup [r, q]) H') : AQ Γ (FnQ Γ P fn Post) .ret E H := fun R a W hs ha => by
  obtain ⟨H1, h1, h2⟩ := hH
  refine ⟨ha.defers, .tuple #[a.eval (.tmp t), a.eval (.tmp s)], ?_, _, _, H', R, rfl, hp, ?_, (RelL.cons (ha.slots t r ht) (RelL.cons (ha.slots s q hs') RelL.nil)).toTup⟩
  · simp [results, hr, Act.eval]
  · have := (hs.sub h1).perm h2
    exact ⟨this.mods, this.rlt, this.rsub, this.rnew, this.ok, this.own, this.disj⟩
theorem AQ.ret3 {fn : Func} {Post : AV → List HE → Prop} {t s y : Nat} {r q x : AV} {H' : List HE} (hr : fn.results = #[.tmp t, .tmp s, .tmp y]) (ht : look E t = some r) (hs' : look E s = some q) (hy : look E y = some x) (hH : ∃ H1, H1.Sublist H ∧ H'.Perm H1) (hp : Post (.tup [r, q, x]) H') : AQ Γ (FnQ Γ P fn Post) .ret E H := fun R a W hs ha => by
  obtain ⟨H1, h1, h2⟩ := hH
  refine ⟨ha.defers, .tuple #[a.eval (.tmp t), a.eval (.tmp s), a.eval (.tmp y)], ?_, _, _, H', R, rfl, hp, ?_, (RelL.cons (ha.slots t r ht) (RelL.cons (ha.slots s q hs') (RelL.cons (ha.slots y x hy) RelL.nil))).toTup⟩
  · simp [results, hr, Act.eval]
  · have := (hs.sub h1).perm h2
    exact ⟨this.mods, this.rlt, this.rsub, this.rnew, this.ok, this.own, this.disj⟩
theorem AQ.ret0 {fn : Func} {Post : AV → List HE → Prop} {H' : List HE} (hr : fn.results = #[]) (hH : ∃ H1, H1.Sublist H ∧ H'.Perm H1) (hp : Post (.val (.tuple #[])) H') : AQ Γ (FnQ Γ P fn Post) .ret E H := fun R a W hs ha => by
  obtain ⟨H1, h1, h2⟩ := hH
  refine ⟨ha.defers, .tuple #[], ?_, _, _, H', R, rfl, hp, ?_, .val _⟩
  · simp [results, hr]
  · have := (hs.sub h1).perm h2
    exact ⟨this.mods, this.rlt, this.rsub, this.rnew, this.ok, this.own, this.disj⟩
/-- A function may end without 'return'. -/
theorem AQ.retN {fn : Func} {Post : AV → List HE → Prop} (h : AQ Γ (FnQ Γ P fn Post) .ret E H) : AQ Γ (FnQ Γ P fn Post) .normal E H := h

/-- A result that lies in a box. -/
theorem AQ.retCell {fn : Func} {Post : AV → List HE → Prop} {t T k b T' room : Nat} {xs ys : List AV} {H' : List HE} [hg : TyG P T true k] (hr : fn.results = #[.cell t T]) (ht : look E t = some (.val (.pointer (some ⟨b, 0, none⟩)))) (hm : HE.blk b T' room xs ∈ H) (hv : xs.take k = ys) (hk : ys.length = k)
    (hH : ∃ H1, H1.Sublist H ∧ H'.Perm H1) (hp : Post (.agg ys) H') : AQ Γ (FnQ Γ P fn Post) .ret E H := fun R a W hs ha => by
  obtain ⟨H1, h1, h2⟩ := hH
  obtain ⟨us, cs, hb, hsz, hts, hrl⟩ := hs.ok _ hm
  have hrl := hrl.take k
  rw [hv] at hrl
  have hl := run_loadVarK hg W b 0 (us.take k) (by rw [hrl.1, hk]) (fun i u hi => by
    rw [cell_of_row W b (0 + i) cs T' (0, 0) hb]
    rw [List.getElem?_take] at hi
    split at hi
    · rw [← hts, List.getElem?_take] at hi
      split at hi
      · simpa using hi
      · cases hi
    · cases hi)
  have hv' := (ha.slots t _ ht).val_inv
  refine ⟨ha.defers, .agg (us.take k).toArray, ?_, _, _, H', R, rfl, hp, ?_, hrl.toAgg⟩
  · have : a.tmps.getD t undef = .pointer (some ⟨b, 0, none⟩) := hv'
    simp [results, hr] at *
    simp [this, asAddr, hl]
  · have := (hs.sub h1).perm h2
    exact ⟨this.mods, this.rlt, this.rsub, this.rnew, this.ok, this.own, this.disj⟩

theorem fn_post1 {R : Nat → Prop} {W W' : World} {r : AV} {u : Value} {H' : List HE} {R' : Nat → Prop} (hs : RelS ⟨W, footOf [], R, 0⟩ R' H' W') (hv : RelV R' W' r u) (h1 : ∀ b, R b → b < W.heap.size) : Post1 R W r H' u W' R' := by
  have hno : ∀ b, ¬ footOf [] b := fun b ⟨e, he, _⟩ => by cases he
  refine ⟨hs.mods.mono fun b _ hb => (hno b hb).elim, hs.rsub, fun b hb => ?_, hv, fun e he => ⟨hs.ok e he, fun b hb => ?_⟩, hs.disj⟩
  · rcases hs.rnew b hb with h | h | h
    · exact .inl h
    · exact .inr ⟨h, hs.rlt b hb⟩
    · exact (hno b h).elim
  · obtain ⟨h2, h3⟩ := hs.own e he b hb
    exact ⟨h2.resolve_right (hno b), h3⟩

/-- A call of a function that writes nothing of the caller's. -/
theorem O.call {f : FuncId} {xs : List Operand} {ats : Array TypeId} {args : List AV} {Post : AV → List HE → Prop} {fn : Func} (ho : o.op = .call { callee := .value (.func f), args := xs.toArray, argTypes := ats }) (hfn : P.funcs[f]? = some fn) (hn : (fn.name == "runtime.NumGoroutine") = false) (hb : fn.body.isNone = false)
    (hx : evs E xs = some args) (h : Sp P f args [] Post) : OpW P N o E H Post := fun R a W h0 h2 h3 ha => by
  unfold Oper.wp
  rw [run_callF ho hfn hn hb, List.map_toArray]
  have hc := h W R (xs.map a.eval) h0 (fun e he => by cases he) .nil (ha.evs hx)
  refine Calls.mono hc ?_
  rintro e W' ⟨u, r, H', R', rfl, hP, hs, hv⟩
  exact ⟨u, r, H', R', rfl, hP, fn_post1 hs hv h0⟩
/-- A call of a function value that holds what it captured. -/
theorem O.callV {f : FuncId} {g : Operand} {xs : List Operand} {cap : List AV} {ats : Array TypeId} {args : List AV} {Post : AV → List HE → Prop} {fn : Func} (ho : o.op = .call { callee := .value g, args := xs.toArray, argTypes := ats }) (hg : ev E g = some (.fn (.func f) cap)) (hfn : P.funcs[f]? = some fn) (hn : (fn.name == "runtime.NumGoroutine") = false) (hb : fn.body.isNone = false)
    (hx : evs E xs = some args) (h : Sp P f (args ++ cap) [] Post) : OpW P N o E H Post := fun R a W h0 h2 h3 ha => by
  obtain ⟨cs, h4, h5⟩ := (ha.ev hg).fn_inv
  have hrun : (execOp a.eval o).run P W = .ok (.enter f ((xs.map a.eval) ++ cs).toArray) W := by
    simp [execOp, ho, resolve, Deferred.ofValue, h4, invoke, callFunc, hfn]
    rw [if_neg (by simpa using hn), if_neg (fun e => by rw [e] at hb; cases hb)]
  unfold Oper.wp
  rw [hrun]
  have hc := h W R (xs.map a.eval ++ cs) h0 (fun e he => by cases he) .nil ((ha.evs hx).app h5)
  refine Calls.mono hc ?_
  rintro e W' ⟨u, r, H', R', rfl, hP, hs, hv⟩
  exact ⟨u, r, H', R', rfl, hP, fn_post1 hs hv h0⟩

/-- A call of a function that may write blocks of the caller's. -/
theorem AO.callM {f : FuncId} {d : Nat} {xs : List Operand} {ats : Array TypeId} {args : List AV} {H0 H1 : List HE} {Post : AV → List HE → Prop} {fn : Func} (ho : o.op = .call { callee := .value (.func f), args := xs.toArray, argTypes := ats }) (hgd : o.guard = none) (hfn : P.funcs[f]? = some fn) (hn : (fn.name == "runtime.NumGoroutine") = false) (hb : fn.body.isNone = false)
    (hx : evs E xs = some args) (hd : o.dst = some d) (hN : d < Γ.N) (hH : H.Perm (H0 ++ H1)) (h : Sp P f args H0 Post) (next : ∀ r H', Post r H' → AO Γ P ops Q rest ((d, r) :: E) (H' ++ H1)) : AO Γ P ops Q (o :: rest) E H := fun R a W hs ha => by
  have hs0 := hs.perm hH.symm
  have hc := h W R (xs.map a.eval) hs.rlt (fun e he => ⟨hs0.ok e (List.mem_append_left _ he), fun b hb => (hs0.own e (List.mem_append_left _ he) b hb).2⟩) (List.pairwise_append.1 hs0.disj).1 (ha.evs hx)
  unfold wpList
  rw [if_pos (by unfold Region.wanted; rw [hgd])]
  refine .inl ?_
  unfold Oper.wp
  rw [run_callF ho hfn hn hb, List.map_toArray]
  refine Calls.mono hc ?_
  rintro e W' ⟨u, r, H', R', rfl, hP, hs', hv⟩
  show wpList P ops Q rest (a.put o.dst u) W'
  rw [hd]
  have hS0 : ∀ b, footOf H0 b → Γ.w0.heap.size ≤ b ∨ Γ.S b := fun b ⟨e, he, hb⟩ => (hs0.own e (List.mem_append_left _ he) b hb).1
  have hnR : ∀ b, footOf H0 b → ¬ R b := fun b ⟨e, he, hb⟩ => (hs0.own e (List.mem_append_left _ he) b hb).2
  have h1lt : ∀ e ∈ H1, ∀ b, e.foot b → b < W.heap.size := fun e he b hb => HE.ok_lt (hs0.ok e (List.mem_append_right _ he)) hb
  have h10 : ∀ e ∈ H1, ∀ b, e.foot b → ¬ footOf H0 b := fun e he b hb ⟨f, hf, hb'⟩ => (List.pairwise_append.1 hs0.disj).2.2 f hf e he b hb' hb
  have hR : ∀ b, R b → W'.heap[b]? = W.heap[b]? := fun b hb => hs'.mods.block b (hs.rlt b hb) fun hh => hnR b hh hb
  refine next r H' hP R' _ W' ⟨Mods.then hs.mods hs'.mods fun b hb hh => ?_, hs'.rlt, fun b hb => hs'.rsub b (hs.rsub b hb), fun b hb => ?_, ?_, ?_, ?_⟩ ((ha.mono hs'.rsub hR).put hN hv)
  · rcases hS0 b hh with h | h
    · omega
    · exact h
  · rcases hs'.rnew b hb with h | h | h
    · exact hs.rnew b h
    · exact .inr (.inl (Nat.le_trans hs.mods.size h))
    · exact .inr (hS0 b h)
  · intro e he
    rcases List.mem_append.1 he with he | he
    · exact hs'.ok e he
    · exact HE.ok_mono hs'.rsub hR hs'.mods.size (fun b hb => hs'.mods.block b (h1lt e he b hb) (h10 e he b hb)) (hs0.ok e (List.mem_append_right _ he))
  · intro e he b hb
    rcases List.mem_append.1 he with he | he
    · obtain ⟨h2, h3⟩ := hs'.own e he b hb
      refine ⟨?_, h3⟩
      rcases h2 with h2 | h2
      · exact .inl (Nat.le_trans hs.mods.size h2)
      · exact hS0 b h2
    · refine ⟨(hs0.own e (List.mem_append_right _ he) b hb).1, fun hr => ?_⟩
      rcases hs'.rnew b hr with h | h | h
      · exact (hs0.own e (List.mem_append_right _ he) b hb).2 h
      · have h5 := h1lt e he b hb
        exact absurd h (by simpa using h5)
      · exact h10 e he b hb h
  · rw [List.pairwise_append]
    refine ⟨hs'.disj, (List.pairwise_append.1 hs0.disj).2.1, fun e he f hf b hb hb' => ?_⟩
    rcases (hs'.own e he b hb).1 with h | h
    · have h5 := h1lt f hf b hb'
      exact absurd h (by simpa using h5)
    · exact h10 f hf b hb' h

end
end Go.Proofs.Ytiddmpmpjdnmeaa.A
