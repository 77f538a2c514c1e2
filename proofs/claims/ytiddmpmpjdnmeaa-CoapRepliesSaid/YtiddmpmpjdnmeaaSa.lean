/-
  A symbolic state over any program: what the temporaries hold (values with what lies behind them), and which blocks are the walk's own.
-/
import Derived.Test.YtiddmpmpjdnmeaaFlow
import Derived.Laws.CopyRow
namespace Go.Proofs.Ytiddmpmpjdnmeaa.A
open Go.RowKit L
set_option linter.unusedVariables false
set_option linter.unusedSimpArgs false

inductive AV where
  | val (v : Value)
  | ro (full : Bool) (len : Nat) (xs : List AV)
  | agg (xs : List AV)
  | tup (xs : List AV)
  | rp (xs : List AV) (o : Nat)
  | fn (f : Fn) (cap : List AV)
  | opt (c : Bool) (x : AV)

inductive RelV (R : Nat → Prop) (W : World) : AV → Value → Prop
  | val (v : Value) : RelV R W (.val v) v
  | emp (full : Bool) (a : Option Addr) (cap : Nat) : (full = true → cap = 0) → cap ≤ maxLen → RelV R W (.ro full 0 []) (.slice a 0 cap)
  | ro (full : Bool) (len : Nat) (xs : List AV) (b off cap : Nat) (us : Nat → Value) : R b → (∀ j, j < xs.length → W.cell? ⟨b, off + j, none⟩ = some (us j)) →
      (∀ j (h : j < xs.length), RelV R W xs[j] (us j)) → len ≤ cap → cap ≤ maxLen → (full = true → cap = len) → RelV R W (.ro full len xs) (.slice (some ⟨b, off, none⟩) len cap)
  | agg (xs : List AV) (cs : Array Value) : cs.size = xs.length → (∀ j (h : j < xs.length), RelV R W xs[j] (cs.getD j undef)) → RelV R W (.agg xs) (.agg cs)
  | tup (xs : List AV) (cs : Array Value) : cs.size = xs.length → (∀ j (h : j < xs.length), RelV R W xs[j] (cs.getD j undef)) → RelV R W (.tup xs) (.tuple cs)
  | rp (xs : List AV) (o b off : Nat) (us : Nat → Value) : R b → (∀ j, j < xs.length → W.cell? ⟨b, off + j, none⟩ = some (us j)) →
      (∀ j (h : j < xs.length), RelV R W xs[j] (us j)) → RelV R W (.rp xs o) (.pointer (some ⟨b, off + o, none⟩))
  | fn (f : Fn) (xs : List AV) (cs : Array Value) : cs.size = xs.length → (∀ j (h : j < xs.length), RelV R W xs[j] (cs.getD j undef)) → RelV R W (.fn f xs) (.func f #[] cs)
  | opt (c : Bool) (x : AV) (v : Value) : (c = true → RelV R W x v) → (c = false → v = undef) → RelV R W (.opt c x) v

theorem RelV.mono {R R' : Nat → Prop} {W W' : World} (hR : ∀ b, R b → R' b) (hW : ∀ b, R b → W'.heap[b]? = W.heap[b]?) {x : AV} {v : Value} (h : RelV R W x v) : RelV R' W' x v := by
  induction h with
  | val v => exact .val v
  | emp full a cap h1 h2 => exact .emp full a cap h1 h2
  | ro full len xs b off cap us hb hc _ h1 h2 h3 ih => exact .ro full len xs b off cap us (hR b hb) (fun j hj => by rw [World.cell?_of_block (w := W) (hW b hb)]; exact hc j hj) ih h1 h2 h3
  | agg xs cs hs _ ih => exact .agg xs cs hs ih
  | tup xs cs hs _ ih => exact .tup xs cs hs ih
  | rp xs o b off us hb hc _ ih => exact .rp xs o b off us (hR b hb) (fun j hj => by rw [World.cell?_of_block (w := W) (hW b hb)]; exact hc j hj) ih
  | fn f xs cs hs _ ih => exact .fn f xs cs hs ih
  | opt c x v _ h2 ih => exact .opt c x v ih h2

/-- Values that read as these. -/
def RelL (R : Nat → Prop) (W : World) (xs : List AV) (us : List Value) : Prop := us.length = xs.length ∧ ∀ j (h : j < xs.length), RelV R W xs[j] (us.getD j undef)

theorem RelL.mono {R R' : Nat → Prop} {W W' : World} (hR : ∀ b, R b → R' b) (hW : ∀ b, R b → W'.heap[b]? = W.heap[b]?) {xs : List AV} {us : List Value} (h : RelL R W xs us) : RelL R' W' xs us :=
  ⟨h.1, fun j hj => (h.2 j hj).mono hR hW⟩

theorem RelL.nil {R : Nat → Prop} {W : World} : RelL R W [] [] := ⟨rfl, fun j hj => by cases hj⟩
theorem RelL.cons {R : Nat → Prop} {W : World} {x : AV} {xs : List AV} {u : Value} {us : List Value} (h : RelV R W x u) (hs : RelL R W xs us) : RelL R W (x :: xs) (u :: us) :=
  ⟨by simp [hs.1], fun j hj => by
    cases j with
    | zero => simpa using h
    | succ j => simpa using hs.2 j (by simpa using hj)⟩
theorem RelL.uncons {R : Nat → Prop} {W : World} {x : AV} {xs : List AV} {us : List Value} (h : RelL R W (x :: xs) us) : ∃ u r, us = u :: r ∧ RelV R W x u ∧ RelL R W xs r := by
  cases us with
  | nil => have := h.1; simp at this
  | cons u r => exact ⟨u, r, rfl, h.2 0 (by simp), by have := h.1; simpa using this, fun j hj => h.2 (j + 1) (by simp; omega)⟩
theorem RelL.app {R : Nat → Prop} {W : World} {xs ys : List AV} {us vs : List Value} (h : RelL R W xs us) (k : RelL R W ys vs) : RelL R W (xs ++ ys) (us ++ vs) := by
  induction xs generalizing us with
  | nil => have : us = [] := List.eq_nil_of_length_eq_zero (by simpa using h.1)
           subst this; exact k
  | cons x xs ih =>
    obtain ⟨u, r, rfl, h1, h2⟩ := h.uncons
    exact RelL.cons h1 (ih h2)
theorem RelL.get {R : Nat → Prop} {W : World} {xs : List AV} {us : List Value} (h : RelL R W xs us) {j : Nat} {x : AV} (hx : xs[j]? = some x) : ∃ u, us[j]? = some u ∧ RelV R W x u := by
  obtain ⟨hj, rfl⟩ := List.getElem?_eq_some_iff.1 hx
  have hj' : j < us.length := by rw [h.1]; exact hj
  exact ⟨us[j], by simp [hj'], by simpa [hj'] using h.2 j hj⟩
theorem RelL.take {R : Nat → Prop} {W : World} {xs : List AV} {us : List Value} (h : RelL R W xs us) (n : Nat) : RelL R W (xs.take n) (us.take n) :=
  ⟨by simp [h.1], fun j hj => by
    rw [List.length_take] at hj
    have := h.2 j (by omega)
    have e : (us.take n).getD j undef = us.getD j undef := by simp [List.getD, List.getElem?_take, show j < n by omega]
    rw [e, List.getElem_take]; exact this⟩
theorem RelL.drop {R : Nat → Prop} {W : World} {xs : List AV} {us : List Value} (h : RelL R W xs us) (n : Nat) : RelL R W (xs.drop n) (us.drop n) :=
  ⟨by simp [h.1], fun j hj => by
    simp at hj
    have := h.2 (n + j) (by omega)
    have hj' : n + j < us.length := by rw [h.1]; omega
    simpa [hj'] using this⟩
theorem RelL.set {R : Nat → Prop} {W : World} {xs : List AV} {us : List Value} (h : RelL R W xs us) (i : Nat) {x : AV} {u : Value} (hx : RelV R W x u) : RelL R W (xs.set i x) (us.set i u) :=
  ⟨by simp [h.1], fun j hj => by
    simp at hj
    have hj' : j < us.length := by rw [h.1]; exact hj
    by_cases e : i = j
    · subst e; simpa [hj'] using hx
    · simpa [e, hj'] using h.2 j hj⟩

theorem relL_of_agg {R : Nat → Prop} {W : World} {xs : List AV} {cs : Array Value} (hs : cs.size = xs.length) (h : ∀ j (h : j < xs.length), RelV R W xs[j] (cs.getD j undef)) : RelL R W xs cs.toList :=
  ⟨by simpa using hs, fun j hj => by
    have hj' : j < cs.size := by omega
    simpa [Array.getD, hj'] using h j hj⟩
theorem RelL.toAgg {R : Nat → Prop} {W : World} {xs : List AV} {us : List Value} (h : RelL R W xs us) : RelV R W (.agg xs) (.agg us.toArray) :=
  .agg xs _ (by simpa using h.1) fun j hj => by
    have hj' : j < us.length := by rw [h.1]; exact hj
    simpa [Array.getD, hj'] using h.2 j hj
theorem RelL.toTup {R : Nat → Prop} {W : World} {xs : List AV} {us : List Value} (h : RelL R W xs us) : RelV R W (.tup xs) (.tuple us.toArray) :=
  .tup xs _ (by simpa using h.1) fun j hj => by
    have hj' : j < us.length := by rw [h.1]; exact hj
    simpa [Array.getD, hj'] using h.2 j hj
theorem RelL.toFn {R : Nat → Prop} {W : World} {f : Fn} {xs : List AV} {us : List Value} (h : RelL R W xs us) : RelV R W (.fn f xs) (.func f #[] us.toArray) :=
  .fn f xs _ (by simpa using h.1) fun j hj => by
    have hj' : j < us.length := by rw [h.1]; exact hj
    simpa [Array.getD, hj'] using h.2 j hj
theorem RelV.agg_inv {R : Nat → Prop} {W : World} {xs : List AV} {v : Value} (h : RelV R W (.agg xs) v) : ∃ us : List Value, v = .agg us.toArray ∧ RelL R W xs us := by
  cases h with
  | agg _ cs hs h => exact ⟨cs.toList, by simp, relL_of_agg hs h⟩
theorem RelV.tup_inv {R : Nat → Prop} {W : World} {xs : List AV} {v : Value} (h : RelV R W (.tup xs) v) : ∃ us : List Value, v = .tuple us.toArray ∧ RelL R W xs us := by
  cases h with
  | tup _ cs hs h => exact ⟨cs.toList, by simp, relL_of_agg hs h⟩
theorem RelV.fn_inv {R : Nat → Prop} {W : World} {f : Fn} {xs : List AV} {v : Value} (h : RelV R W (.fn f xs) v) : ∃ us : List Value, v = .func f #[] us.toArray ∧ RelL R W xs us := by
  cases h with
  | fn _ _ cs hs h => exact ⟨cs.toList, by simp, relL_of_agg hs h⟩
theorem RelV.opt_inv {R : Nat → Prop} {W : World} {c : Bool} {x : AV} {v : Value} (h : RelV R W (.opt c x) v) : (c = true → RelV R W x v) ∧ (c = false → v = undef) := by
  cases h with
  | opt _ _ _ h1 h2 => exact ⟨h1, h2⟩
theorem RelV.val_inv {R : Nat → Prop} {W : World} {v u : Value} (h : RelV R W (.val v) u) : u = v := by cases h; rfl

/-- What one cell can hold. -/
def AV.one : AV → Bool
  | .val v => v.oneCell'
  | .agg _ | .tup _ | .opt _ _ => false
  | _ => true
theorem RelV.one {R : Nat → Prop} {W : World} {x : AV} {v : Value} (h : RelV R W x v) (h1 : x.one = true) : v.oneCell' = true := by
  cases h <;> first | exact h1 | rfl | cases h1

def AV.cells : AV → List AV
  | .agg xs => xs
  | x => [x]
theorem RelV.cells {R : Nat → Prop} {W : World} {x : AV} {v : Value} (h : RelV R W x v) (h0 : ∀ u, x = .val u → u.oneCell' = true) (h9 : ∀ c y, x ≠ .opt c y) : RelL R W x.cells v.cells.toList := by
  cases h with
  | val v =>
    have := h0 v rfl
    have hc : v.cells = #[v] := by cases v <;> first | rfl | cases this
    rw [hc]; exact RelL.cons (.val v) RelL.nil
  | agg xs cs hs h => exact relL_of_agg hs h
  | emp full a cap h1 h2 => exact RelL.cons (.emp full a cap h1 h2) RelL.nil
  | ro full len xs b off cap us hb hc hr h1 h2 h3 => exact RelL.cons (.ro full len xs b off cap us hb hc hr h1 h2 h3) RelL.nil
  | tup xs cs hs h => exact RelL.cons (.tup xs cs hs h) RelL.nil
  | rp xs o b off us hb hc hr => exact RelL.cons (.rp xs o b off us hb hc hr) RelL.nil
  | fn f xs cs hs h => exact RelL.cons (.fn f xs cs hs h) RelL.nil
  | opt c y _ _ _ => exact absurd rfl (h9 c y)

abbrev Env := List (Nat × AV)
def look : Env → Nat → Option AV
  | [], _ => none
  | (k, v) :: r, t => bif Nat.beq k t then some v else look r t
def ofConst : Value → AV
  | .agg cs => .agg (cs.toList.map .val)
  | v => .val v
theorem ofConst_rel (R : Nat → Prop) (W : World) (v : Value) : RelV R W (ofConst v) v := by
  cases v with
  | agg cs =>
    refine .agg _ cs (by simp) fun j hj => ?_
    have hj' : j < cs.size := by simpa using hj
    simp only [List.getElem_map, Array.getElem_toList, Array.getD, hj', dif_pos]
    exact .val _
  | _ => exact .val _
def ev (E : Env) : Operand → Option AV
  | .tmp t => look E t
  | .const v => some (ofConst v)
  | .global g => some (.val (.pointer (some ⟨g, 0, none⟩)))
  | .func f => some (.fn (.func f) [])
def evs (E : Env) : List Operand → Option (List AV)
  | [] => some []
  | x :: r => match ev E x, evs E r with | some v, some vs => some (v :: vs) | _, _ => none

structure RelA (N : Nat) (R : Nat → Prop) (W : World) (E : Env) (a : Act) : Prop where
  defers : a.defers = []
  size : a.tmps.size = N
  slots : ∀ t v, look E t = some v → RelV R W v (a.eval (.tmp t))

theorem RelA.mono {N : Nat} {R R' : Nat → Prop} {W W' : World} {E : Env} {a : Act} (h : RelA N R W E a) (hR : ∀ b, R b → R' b) (hW : ∀ b, R b → W'.heap[b]? = W.heap[b]?) : RelA N R' W' E a :=
  ⟨h.defers, h.size, fun t v ht => (h.slots t v ht).mono hR hW⟩
theorem RelA.ev {N : Nat} {R : Nat → Prop} {W : World} {E : Env} {a : Act} (h : RelA N R W E a) {x : Operand} {v : AV} (hx : ev E x = some v) : RelV R W v (a.eval x) := by
  cases x with
  | tmp t => exact h.slots t v hx
  | const u => cases hx; exact ofConst_rel ..
  | global g => cases hx; exact .val _
  | func f => cases hx; exact .fn _ [] #[] rfl (fun j hj => by cases hj)
theorem RelA.evs {N : Nat} {R : Nat → Prop} {W : World} {E : Env} {a : Act} (h : RelA N R W E a) : ∀ {xs : List Operand} {vs : List AV}, A.evs E xs = some vs → RelL R W vs (xs.map a.eval)
  | [], vs, hx => by cases hx; exact RelL.nil
  | x :: r, vs, hx => by
    unfold A.evs at hx
    split at hx
    · rename_i v vs' h1 h2
      cases hx
      exact RelL.cons (h.ev h1) (RelA.evs h h2)
    · cases hx
theorem RelA.put {N : Nat} {R : Nat → Prop} {W : World} {E : Env} {a : Act} (h : RelA N R W E a) {d : Nat} (hd : d < N) {v : AV} {u : Value} (hv : RelV R W v u) : RelA N R W ((d, v) :: E) (a.put (some d) u) := by
  refine ⟨h.defers, by simp [Act.put, h.size], fun t x hx => ?_⟩
  unfold look at hx
  by_cases e : d = t
  · subst e
    simp at hx
    subst hx
    rw [eval_put_same (by rw [h.size]; exact hd)]; exact hv
  · have : Nat.beq d t = false := by cases hb : Nat.beq d t with | false => rfl | true => exact absurd (Nat.eq_of_beq_eq_true hb) e
    rw [this] at hx
    rw [eval_put_other e]; exact h.slots t x hx
theorem RelA.none {N : Nat} {R : Nat → Prop} {W : World} {E : Env} {a : Act} (h : RelA N R W E a) (u : Value) : RelA N R W E (a.put none u) := h

/-- What is the walk's own. -/
inductive HE where
  | blk (b : Nat) (T : TypeId) (room : Nat) (xs : List AV)
  | row (v : Value) (T : TypeId) (sz n : Nat) (xs : List AV)
  | prd (foot : Nat → Prop) (p : World → Prop)

def HE.foot : HE → Nat → Prop
  | .blk b .., k => k = b
  | .row v .., k => v.ownBlock = some k
  | .prd f _, k => f k

def HE.ok (R : Nat → Prop) (W : World) : HE → Prop
  | .blk b T room xs => ∃ us : List Value, ∃ cs : Array Value, W.heap[b]? = some (.cells cs T (0, 0)) ∧ cs.size = room ∧ cs.toList.take xs.length = us ∧ RelL R W xs us
  | .row v T sz n xs => ∃ us : List Value, W.ownsRow 0 T sz v n us ∧ RelL R W xs us
  | .prd f p => p W ∧ (∀ W' : World, W.heap.size ≤ W'.heap.size → (∀ b, f b → W'.heap[b]? = W.heap[b]?) → p W') ∧ ∀ b, f b → b < W.heap.size

theorem HE.ok_lt {R : Nat → Prop} {W : World} {e : HE} (h : e.ok R W) {b : Nat} (hb : e.foot b) : b < W.heap.size := by
  cases e with
  | blk b' T room xs =>
    obtain ⟨us, cs, h1, _⟩ := h
    cases hb
    exact (Array.getElem?_eq_some_iff.1 h1).1
  | row v T sz n xs =>
    obtain ⟨us, h1, _⟩ := h
    exact (h1.lt b hb).2
  | prd f p => exact h.2.2 b hb

theorem HE.ok_mono {R R' : Nat → Prop} {W W' : World} (hR : ∀ b, R b → R' b) (hW : ∀ b, R b → W'.heap[b]? = W.heap[b]?) {e : HE} (hs : W.heap.size ≤ W'.heap.size) (hf : ∀ b, e.foot b → W'.heap[b]? = W.heap[b]?) (h : e.ok R W) : e.ok R' W' := by
  cases e with
  | blk b T room xs =>
    obtain ⟨us, cs, h1, h2, h3, h4⟩ := h
    exact ⟨us, cs, by rw [hf b rfl]; exact h1, h2, h3, h4.mono hR hW⟩
  | row v T sz n xs =>
    obtain ⟨us, h1, h2⟩ := h
    refine ⟨us, ⟨h1.1, ?_⟩, h2.mono hR hW⟩
    rcases h1.2 with h | ⟨g, cap, cur, rfl, hb, hg, rest⟩
    · exact .inl h
    · exact .inr ⟨g, cap, cur, rfl, hb, by rw [hf g rfl]; exact hg, rest⟩
  | prd f p =>
    obtain ⟨h1, h2, h3⟩ := h
    refine ⟨h2 W' hs hf, fun W2 hs2 h4 => h2 W2 (by omega) fun b hb => (h4 b hb).trans (hf b hb), fun b hb => Nat.lt_of_lt_of_le (h3 b hb) hs⟩

def Disj (e f : HE) : Prop := ∀ b, e.foot b → ¬ f.foot b

structure Cx where
  w0 : World
  S : Nat → Prop
  R0 : Nat → Prop
  N : Nat

structure RelS (Γ : Cx) (R : Nat → Prop) (H : List HE) (W : World) : Prop where
  mods : Mods Γ.S Γ.w0 W
  rlt : ∀ b, R b → b < W.heap.size
  rsub : ∀ b, Γ.R0 b → R b
  rnew : ∀ b, R b → Γ.R0 b ∨ Γ.w0.heap.size ≤ b ∨ Γ.S b
  ok : ∀ e ∈ H, e.ok R W
  own : ∀ e ∈ H, ∀ b, e.foot b → (Γ.w0.heap.size ≤ b ∨ Γ.S b) ∧ ¬ R b
  disj : H.Pairwise Disj

/-- What one operation, or one call, leaves: nothing that was there differs; new blocks. -/
structure Post1 (R : Nat → Prop) (W : World) (v : AV) (Hn : List HE) (u : Value) (W' : World) (R' : Nat → Prop) : Prop where
  ext : Ext W W'
  sub : ∀ b, R b → R' b
  new : ∀ b, R' b → R b ∨ (W.heap.size ≤ b ∧ b < W'.heap.size)
  val : RelV R' W' v u
  ok : ∀ e ∈ Hn, e.ok R' W' ∧ ∀ b, e.foot b → W.heap.size ≤ b ∧ ¬ R' b
  disj : Hn.Pairwise Disj

theorem extSame {W W' : World} (h : Ext W W') {R : Nat → Prop} (hR : ∀ b, R b → b < W.heap.size) : ∀ b, R b → W'.heap[b]? = W.heap[b]? := fun b hb => h.block b (hR b hb) (fun hh => hh)

theorem RelS.step {Γ : Cx} {R R' : Nat → Prop} {H Hn : List HE} {W W' : World} {v : AV} {u : Value} (h : RelS Γ R H W) (p : Post1 R W v Hn u W' R') : RelS Γ R' (Hn ++ H) W' := by
  have hfl : ∀ e ∈ H, ∀ b, e.foot b → b < W.heap.size := fun e he b hb => HE.ok_lt (h.ok e he) hb
  refine ⟨h.mods.trans p.ext.any, fun b hb => ?_, fun b hb => p.sub b (h.rsub b hb), fun b hb => ?_, ?_, ?_, ?_⟩
  · rcases p.new b hb with hb | hb
    · exact Nat.lt_of_lt_of_le (h.rlt b hb) p.ext.size
    · exact hb.2
  · rcases p.new b hb with hb | hb
    · exact h.rnew b hb
    · exact .inr (.inl (Nat.le_trans h.mods.size hb.1))
  · intro e he
    rcases List.mem_append.1 he with he | he
    · exact (p.ok e he).1
    · exact HE.ok_mono p.sub (extSame p.ext h.rlt) p.ext.size (fun b hb => p.ext.block b (hfl e he b hb) fun hh => hh) (h.ok e he)
  · intro e he b hb
    rcases List.mem_append.1 he with he | he
    · have := (p.ok e he).2 b hb
      exact ⟨.inl (Nat.le_trans h.mods.size this.1), this.2⟩
    · refine ⟨(h.own e he b hb).1, fun hr => ?_⟩
      rcases p.new b hr with hr | hr
      · exact (h.own e he b hb).2 hr
      · have := hfl e he b hb; omega
  · rw [List.pairwise_append]
    refine ⟨p.disj, h.disj, fun e he f hf b hb hb' => ?_⟩
    have h1 := ((p.ok e he).2 b hb).1
    have h2 := hfl f hf b hb'
    omega

/-- Fewer facts. -/
def Sub (H' H : List HE) : Prop := H'.Sublist H
theorem RelS.sub {Γ : Cx} {R : Nat → Prop} {H H' : List HE} {W : World} (h : RelS Γ R H W) (hs : H'.Sublist H) : RelS Γ R H' W :=
  ⟨h.mods, h.rlt, h.rsub, h.rnew, fun e he => h.ok e (hs.subset he), fun e he => h.own e (hs.subset he), h.disj.sublist hs⟩
theorem Disj.symm {e f : HE} (h : Disj e f) : Disj f e := fun b hb hb' => h b hb' hb
theorem RelS.perm {Γ : Cx} {R : Nat → Prop} {H H' : List HE} {W : World} (h : RelS Γ R H W) (hs : H'.Perm H) : RelS Γ R H' W :=
  ⟨h.mods, h.rlt, h.rsub, h.rnew, fun e he => h.ok e (hs.subset he), fun e he => h.own e (hs.subset he), (hs.symm.pairwise_iff Disj.symm).1 h.disj⟩

end Go.Proofs.Ytiddmpmpjdnmeaa.A
