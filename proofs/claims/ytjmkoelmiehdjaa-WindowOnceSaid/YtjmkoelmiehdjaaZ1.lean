/-
  Texts laid together (part 1): what the statement's walk and plain law need. No condition.
-/
import Derived.Test.YtjmkoelmiehdjaaRows
import Derived.WalkKit
import Derived.ProofKit
import Derived.OpenShut
import Derived.JoinedCond
import Derived.WalkLawsBesides
import Derived.WalkSpells
import Derived.Handy
import Derived.Lib.Hide
import Derived.Deep.QuietTactic
import Derived.BigQuiet
import Derived.Deep.RegionHeld3
import Derived.Deep.DeepCutAuto
import Derived.Deep.DeepFit
import Derived.Maps.AppendAt
import Derived.Laws.CopyRow
import Derived.Deep.AppendSrc
import Derived.Deep.Upon
import Derived.Great.BuildSlice
namespace Go.Proofs.Ytjmkoelmiehdjaa.L
open Go.RowKit
set_option linter.unusedVariables false

/-- Of the blocks that were there, only those of which S holds may differ. -/
structure Mods (S : Nat → Prop) (w w' : World) : Prop where
  os : w'.os = w.os
  tape : w'.tape = w.tape
  output : w'.output = w.output
  size : w.heap.size ≤ w'.heap.size
  block : ∀ k, k < w.heap.size → ¬ S k → w'.heap[k]? = w.heap[k]?

theorem Mods.refl (S : Nat → Prop) (w : World) : Mods S w w := ⟨rfl, rfl, rfl, Nat.le_refl _, fun _ _ _ => rfl⟩

theorem Mods.trans {S : Nat → Prop} {a b c : World} (h : Mods S a b) (k : Mods S b c) : Mods S a c :=
  ⟨k.os.trans h.os, k.tape.trans h.tape, k.output.trans h.output, Nat.le_trans h.size k.size, fun i hi hs => (k.block i (Nat.lt_of_lt_of_le hi h.size) hs).trans (h.block i hi hs)⟩

theorem Mods.mono {S T : Nat → Prop} {w w' : World} (h : Mods S w w') (hs : ∀ k, k < w.heap.size → S k → T k) : Mods T w w' :=
  ⟨h.os, h.tape, h.output, h.size, fun k hk ht => h.block k hk (fun hh => ht (hs k hk hh))⟩

/-- A second step may change, besides, blocks that came with the first. -/
theorem Mods.then {S T : Nat → Prop} {a b c : World} (h : Mods S a b) (k : Mods T b c) (hs : ∀ i, i < a.heap.size → T i → S i) : Mods S a c :=
  ⟨k.os.trans h.os, k.tape.trans h.tape, k.output.trans h.output, Nat.le_trans h.size k.size,
    fun i hi hn => (k.block i (Nat.lt_of_lt_of_le hi h.size) (fun ht => hn (hs i hi ht))).trans (h.block i hi hn)⟩

theorem Mods.drew {S : Nat → Prop} {a w : World} (h : Mods S a w) : Mods S a w.drew := ⟨h.os, h.tape, h.output, h.size, h.block⟩
theorem Mods.alloc {S : Nat → Prop} {a w : World} (h : Mods S a w) (o : Obj) : Mods S a (w.alloc o) :=
  ⟨h.os, h.tape, h.output, Nat.le_trans h.size (by simp), fun k hk hs => (Below.heap_alloc w o k (Nat.lt_of_lt_of_le hk h.size)).trans (h.block k hk hs)⟩

theorem Mods.setCell {S : Nat → Prop} {a w : World} (h : Mods S a w) {p : Addr} (hp : p.block < a.heap.size → S p.block) (u : Value) : Mods S a (w.setCell p u) :=
  ⟨h.os, h.tape, h.output, by simpa using h.size, fun k hk hs => (Below.heap_setCell w p u k (fun e => hs (e ▸ hp (e ▸ hk)))).trans (h.block k hk hs)⟩

theorem Mods.grown {S : Nat → Prop} {a w w' : World} {row : Option Nat} (h : Mods S a w) (hg : w.grownBy w' row) (hr : ∀ k, row = some k → k < a.heap.size → S k) : Mods S a w' :=
  ⟨hg.os.trans h.os, hg.tape.trans h.tape, hg.output.trans h.output, Nat.le_trans h.size hg.size,
    fun k hk hs => (hg.block k (Nat.lt_of_lt_of_le hk h.size) (fun e => hs (hr k e.symm hk))).trans (h.block k hk hs)⟩

theorem Mods.toBelow {S : Nat → Prop} {w w' : World} {B : Nat} (h : Mods S w w') (hB : B ≤ w.heap.size) (hS : ∀ k, S k → B ≤ k) : Below B w w' :=
  ⟨h.os, h.tape, h.output, h.size, fun k hk => h.block k (Nat.lt_of_lt_of_le hk hB) (fun hs => by have := hS k hs; omega)⟩

/-- Nothing that was there differs. -/
abbrev Ext (w w' : World) : Prop := Mods (fun _ => False) w w'

theorem Ext.any {S : Nat → Prop} {w w' : World} (h : Ext w w') : Mods S w w' := h.mono (fun _ _ hh => hh.elim)
theorem Ext.toBelow {w w' : World} (h : Ext w w') : Below w.heap.size w w' := Mods.toBelow h (Nat.le_refl _) (fun _ hh => hh.elim)

theorem Mods.cell {S : Nat → Prop} {w w' : World} (h : Mods S w w') {p : Addr} (hp : p.block < w.heap.size) (hs : ¬ S p.block) : w'.cell? p = w.cell? p :=
  World.cell?_of_block (w := w) (h.block p.block hp hs)
theorem Mods.frozen {S : Nat → Prop} {w w' : World} (h : Mods S w w') {p : Addr} (hp : p.block < w.heap.size) (hs : ¬ S p.block) : w'.frozen? p = w.frozen? p :=
  World.frozen?_of_block (w := w) (h.block p.block hp hs)

/-- What the walk needs behind a call that leaves all that was there as it was. -/
theorem Ext.cells {w w' : World} (h : Ext w w') : (∀ b o, b < w.heap.size → w'.cell? ⟨b, o, none⟩ = w.cell? ⟨b, o, none⟩) ∧ (∀ b o, b < w.heap.size → w'.frozen? ⟨b, o, none⟩ = w.frozen? ⟨b, o, none⟩) ∧ w.heap.size ≤ w'.heap.size :=
  ⟨fun b o hb => h.cell (p := ⟨b, o, none⟩) hb (fun hh => hh), fun b o hb => h.frozen (p := ⟨b, o, none⟩) hb (fun hh => hh), h.size⟩

/-- The cells from an address on are these. -/
def rowAt (w : World) (b off : Nat) (xs : List Value) : Prop := ∀ j, j < xs.length → w.cell? ⟨b, off + j, none⟩ = xs[j]?

/-- A slice of n elements that reads as these cells, in blocks of which F holds. -/
def reads (F : Nat → Prop) (w : World) (v : Value) (n : Nat) (xs : List Value) : Prop :=
  ∃ a cap, v = .slice a n cap ∧ n ≤ cap ∧ cap ≤ maxLen ∧ (xs = [] ∨ ∃ b off, a = some ⟨b, off, none⟩ ∧ F b ∧ rowAt w b off xs)

theorem rowAt.lt {w : World} {b off : Nat} {xs : List Value} (h : rowAt w b off xs) (hx : xs ≠ []) : b < w.heap.size := by
  have h0 := h 0 (by cases xs <;> simp_all)
  cases xs with
  | nil => exact absurd rfl hx
  | cons x r => exact World.block_lt_of_cell? w ⟨b, off + 0, none⟩ (u := x) (by simpa using h0)

theorem rowAt.mods {S : Nat → Prop} {w w' : World} {b off : Nat} {xs : List Value} (h : rowAt w b off xs) (hm : Mods S w w') (hs : ¬ S b) : rowAt w' b off xs := fun j hj => by
  rw [hm.cell (p := ⟨b, off + j, none⟩) (h.lt (by intro e; simp [e] at hj)) hs]; exact h j hj

theorem reads.mods {F S : Nat → Prop} {w w' : World} {v : Value} {n : Nat} {xs : List Value} (h : reads F w v n xs) (hm : Mods S w w') (hs : ∀ b, F b → ¬ S b) : reads F w' v n xs := by
  obtain ⟨a, cap, hv, h1, h2, h3⟩ := h
  refine ⟨a, cap, hv, h1, h2, h3.imp id ?_⟩
  rintro ⟨b, off, ha, hF, hr⟩
  exact ⟨b, off, ha, hF, hr.mods hm (hs b hF)⟩

theorem reads.ext {F : Nat → Prop} {w w' : World} {v : Value} {n : Nat} {xs : List Value} (h : reads F w v n xs) (hm : Ext w w') : reads F w' v n xs :=
  h.mods hm (fun _ _ hh => hh)

theorem reads.imp {F G : Nat → Prop} {w : World} {v : Value} {n : Nat} {xs : List Value} (h : reads F w v n xs) (hs : ∀ b, b < w.heap.size → F b → G b) : reads G w v n xs := by
  obtain ⟨a, cap, hv, h1, h2, h3⟩ := h
  refine ⟨a, cap, hv, h1, h2, ?_⟩
  rcases h3 with h3 | ⟨b, off, ha, hF, hr⟩
  · exact .inl h3
  · by_cases hx : xs = []
    · exact .inl hx
    · exact .inr ⟨b, off, ha, hs b (hr.lt hx) hF, hr⟩

/-- The element that an index names (rows of one cell). -/
theorem reads.at {F : Nat → Prop} {w : World} {v : Value} {n : Nat} {xs : List Value} (h : reads F w v n xs) (hn : 0 < xs.length) :
    ∃ b off cap, v = .slice (some ⟨b, off, none⟩) n cap ∧ n ≤ cap ∧ cap ≤ maxLen ∧ F b ∧ b < w.heap.size ∧ ∀ j, j < xs.length → w.cell? ⟨b, off + j, none⟩ = xs[j]? := by
  obtain ⟨a, cap, hv, h1, h2, h3⟩ := h
  rcases h3 with h3 | ⟨b, off, rfl, hF, hr⟩
  · simp [h3] at hn
  · exact ⟨b, off, cap, hv, h1, h2, hF, hr.lt (by intro e; simp [e] at hn), hr⟩


theorem shl_big_u64 (x y : Int) (yk : IntKind) (h : 64 ≤ y) : Op.shift .shl .u64 x yk y = pure (.int .u64 0) := by
  have hm : min y.toNat (IntKind.u64.bits) = 64 := by simp [IntKind.bits]; omega
  have hn : ¬ y < 0 := by omega
  have hw : IntKind.u64.wrap (x * 2 ^ 64) = 0 := by rw [IntKind.wrap_u64]; exact Int.mul_emod_left _ _
  simp only [Op.shift, if_neg hn, hm, hw]

end Go.Proofs.Ytjmkoelmiehdjaa.L

namespace Go.Proofs.Ytjmkoelmiehdjaa.W
open Go.RowKit
set_option linter.unusedVariables false

def maskN (n : Int) : Nat := if 64 ≤ n then 2 ^ 64 - 1 else 2 ^ n.toNat - 1

theorem maskN_lt (n : Int) : maskN n < 2 ^ 64 := by
  unfold maskN
  split
  · decide
  · have : (2:Nat) ^ n.toNat ≤ 2 ^ 64 := Nat.pow_le_pow_right (by decide) (by omega)
    have h0 : 0 < (2:Nat) ^ n.toNat := Nat.pow_pos (by decide)
    omega

theorem maskN_bit (n : Int) (i : Nat) : (maskN n).testBit i = (decide ((i : Int) < n) && decide (i < 64)) := by
  unfold maskN
  split
  · rw [Nat.testBit_two_pow_sub_one]
    by_cases h : i < 64 <;> simp [h]; omega
  · rw [Nat.testBit_two_pow_sub_one]
    by_cases h : i < n.toNat
    · have h1 : (i : Int) < n := by omega
      have h2 : i < 64 := by omega
      simp [h, h1, h2]
    · have h1 : ¬ (i : Int) < n := by omega
      simp [h, h1]

def okBits (s t : Int) (b : Nat) : Bool := (List.range 64).all fun i => !b.testBit i || (decide ((i : Int) < s) && decide ((i : Int) ≤ t))
theorem okBits_iff (s t : Int) (b : Nat) : okBits s t b = true ↔ ∀ i, i < 64 → b.testBit i = true → (i : Int) < s ∧ (i : Int) ≤ t := by
  unfold okBits
  simp only [List.all_eq_true, List.mem_range, Bool.or_eq_true, Bool.not_eq_true', Bool.and_eq_true, decide_eq_true_eq]
  constructor
  · intro h i hi hb; have := h i hi; simp [hb] at this; exact this
  · intro h i hi
    by_cases hb : b.testBit i = true
    · exact .inr (h i hi hb)
    · simp at hb; exact .inl hb

def validB (s t : Int) (b : Nat) (l : Bool) : Bool :=
  decide (1 ≤ s ∧ s ≤ 64 ∧ -1 ≤ t ∧ t ≤ 1099511627775) &&
    (if l then decide (b = 0) && decide (t = -1)
     else okBits s t b && (decide (t = -1) || b.testBit 0))

theorem clear_iff (b : Nat) (m : Int) (hb : b < 2 ^ 64) : b &&& (2 ^ 64 - 1 - maskN m) = 0 ↔ ∀ i, i < 64 → b.testBit i = true → (i : Int) < m := by
  have e : 2 ^ 64 - 1 - maskN m = 2 ^ 64 - (maskN m + 1) := by omega
  rw [e]
  constructor
  · intro h i hi hbi
    have := congrArg (fun x => x.testBit i) h
    simp only [Nat.testBit_and, Nat.testBit_two_pow_sub_succ (maskN_lt m), Nat.zero_testBit, maskN_bit, hbi, hi] at this
    simpa using this
  · intro h
    apply Nat.eq_of_testBit_eq
    intro i
    simp only [Nat.testBit_and, Nat.testBit_two_pow_sub_succ (maskN_lt m), Nat.zero_testBit, maskN_bit]
    by_cases hi : i < 64
    · by_cases hbi : b.testBit i = true
      · have := h i hi hbi; simp [hi, this]
      · simp [hbi]
    · simp [hi]

theorem bit0 (b : Nat) : b.testBit 0 = decide (b % 2 = 1) := by simp [Nat.testBit_zero]

theorem validB_mk (s t : Int) (b : Nat) (hb : b < 2 ^ 64) (h1 : 1 ≤ s) (h2 : s ≤ 64) (h3 : -1 ≤ t) (h4 : t ≤ 1099511627775) :
    validB s t b false = (decide (b &&& (2 ^ 64 - 1 - maskN (min s (t + 1))) = 0) && (decide (t = -1) || decide (b % 2 = 1))) := by
  unfold validB
  rw [← bit0]
  have : okBits s t b = decide (b &&& (2 ^ 64 - 1 - maskN (min s (t + 1))) = 0) := by
    rw [Bool.eq_iff_iff, okBits_iff, decide_eq_true_iff, clear_iff b _ hb]
    constructor
    · intro h i hi hbi; have := h i hi hbi; omega
    · intro h i hi hbi; have := h i hi hbi; omega
  rw [this]
  simp [h1, h2, h3, h4]

end Go.Proofs.Ytjmkoelmiehdjaa.W

namespace Go.Proofs.Ytjmkoelmiehdjaa.L
open Go.RowKit
set_option linter.unusedVariables false
set_option linter.unusedSimpArgs false

abbrev Pred := Value → World → Prop
def NoQ : Exit → Act → World → Prop := fun _ _ _ => False

def FHas (done : List (Tmp × Pred)) (ts : List Tmp) (A : Act) (W : World) : Prop := ∀ p ∈ done, p.1 ∈ ts → p.2 (A.eval (.tmp p.1)) W
def FOut (done : List (Tmp × Pred)) (ts : List Tmp) (a A : Act) : Prop := A.tmps.size = a.tmps.size ∧ ∀ t ∈ ts, t ∉ done.map (·.1) → A.eval (.tmp t) = a.eval (.tmp t)

def FStep (P : Program) (ops : Array Oper) (o : Oper) (A : Act) (W : World) (post : Value → World → Prop) : Prop :=
  if Region.wanted o (yielded ops A.tmps) then o.wp P A W (fun A' W' => ∃ v, A' = A.put o.dst v ∧ post v W') NoQ else post undef W

def Stable (φ : Pred) : Prop := ∀ v W W', φ v W → Ext W W' → φ v W'
theorem stable_eq (c : Value) : Stable (fun v _ => v = c) := fun _ _ _ h _ => h

def FlowGo (P : Program) (ops : Array Oper) (w0 : World) (a : Act) (K : List (Tmp × Pred) → Prop) : List (Tmp × Pred) → List Oper → Prop
  | done, [] => K done
  | done, o :: rest => ∃ (d : Tmp) (φ : Pred), o.dst = some d ∧ Stable φ ∧
      (∀ A W, Ext w0 W → FHas done (o.looksAt ops) A W → FOut done (o.looksAt ops) a A → FStep P ops o A W (fun v W' => Ext W W' ∧ φ v W')) ∧
      FlowGo P ops w0 a K ((d, φ) :: done) rest

def putAll (a : Act) (f : Tmp → Value) : List Tmp → Act
  | [] => a
  | t :: ts => (putAll a f ts).put (some t) (f t)

/-- Operation number i of the region: whoever writes a temporary that it looks at stands before it, and it waits for it; no two of the first n write one temporary; from n on each waits for all before it. -/
def flowOkAt (ops : Array Oper) (n i : Nat) (o : Oper) : Bool :=
  let waits := fun j => o.after.any fun e => Region.binds .any e && e.on == j
  (match o.op with | .select .. => false | _ => true) && (o.after.all fun e => !Region.binds .any e || decide (e.on < i)) &&
  if i < n then
    o.dst.isSome &&
    (List.range n).all (fun j => j == i || ((ops[j]?).all fun oj => (match oj.dst with | some d => o.dst != some d && (!(o.looksAt ops).contains d || (decide (j < i) && waits j)) | none => true)))
  else (List.range i).all waits

def flowOk (ops : Array Oper) (n : Nat) : Bool := decide (n ≤ ops.size) && (List.range ops.size).all fun i => (ops[i]?).all fun o => flowOkAt ops n i o

section
variable {P : Program} {ops : Array Oper} {Q : Exit → Act → World → Prop} {a : Act} {w0 : World}

theorem wp_of_noQ {o : Oper} {A : Act} {W : World} {K : Act → World → Prop} (h : o.wp P A W K NoQ) : o.wp P A W K Q := by
  unfold Oper.wp at *
  generalize (execOp A.eval o).run P W = r at *
  cases r with
  | ok n w' =>
    cases n <;> simp only [Oper.upon] at h ⊢ <;> first
      | exact h
      | (refine Calls.mono h fun e w'' he => ?_
         cases e with
         | returned v => exact he
         | panicked c => exact (he : False).elim
         | outgrown => obtain ⟨_, _, hh⟩ := he; exact (hh : False).elim)
  | halt x w' => cases x <;> simp only [Oper.upon] at h ⊢ <;> first | exact h | exact (h : False).elim

/-- What the operations hand on: to each its predicate. -/
def FlowAll (P : Program) (ops : Array Oper) (w0 : World) (a : Act) (n : Nat) (Φ : Nat → Pred) (D : Nat → Tmp) : Prop :=
  ∀ i, i < n → ∀ o, ops[i]? = some o → o.dst = some (D i) ∧ Stable (Φ i) ∧
    ∀ A W, Ext w0 W → A.tmps.size = a.tmps.size → (∀ j, j < i → D j ∈ o.looksAt ops → Φ j (A.eval (.tmp (D j))) W) → (∀ t ∈ o.looksAt ops, (∀ j, j < i → D j ≠ t) → A.eval (.tmp t) = a.eval (.tmp t)) →
      FStep P ops o A W (fun v W' => Ext W W' ∧ Φ i v W')

theorem flowAll_of_go {K : List (Tmp × Pred) → Prop} : ∀ (l : List Oper) (k : Nat) (done : List (Tmp × Pred)) (Φ : Nat → Pred) (D : Nat → Tmp),
    done = ((List.range k).map fun i => (D i, Φ i)).reverse → (∀ j, l[j]? = if j < l.length then ops[k + j]? else none) → FlowGo P ops w0 a K done l →
    ∃ (Φ' : Nat → Pred) (D' : Nat → Tmp), (∀ i, i < k → Φ' i = Φ i ∧ D' i = D i) ∧ K ((List.range (k + l.length)).map fun i => (D' i, Φ' i)).reverse ∧
      ∀ i, k ≤ i → i < k + l.length → ∀ o, ops[i]? = some o → o.dst = some (D' i) ∧ Stable (Φ' i) ∧
        ∀ A W, Ext w0 W → A.tmps.size = a.tmps.size → (∀ j, j < i → D' j ∈ o.looksAt ops → Φ' j (A.eval (.tmp (D' j))) W) → (∀ t ∈ o.looksAt ops, (∀ j, j < i → D' j ≠ t) → A.eval (.tmp t) = a.eval (.tmp t)) →
          FStep P ops o A W (fun v W' => Ext W W' ∧ Φ' i v W') := by
  intro l
  induction l with
  | nil =>
    intro k done Φ D hd _ h
    exact ⟨Φ, D, fun _ _ => ⟨rfl, rfl⟩, by simpa [FlowGo, hd] using h, fun i h1 h2 => by simp at h2; omega⟩
  | cons o rest ih =>
    intro k done Φ D hd hl h
    obtain ⟨d, φ, ho, hst, hstep, hrest⟩ := h
    have h0 : ops[k]? = some o := by have := hl 0; simpa using this.symm
    have hd' : (d, φ) :: done = ((List.range (k + 1)).map fun i => ((fun i => if i = k then d else D i) i, (fun i => if i = k then φ else Φ i) i)).reverse := by
      rw [List.range_succ, List.map_append, List.reverse_append]
      simp only [List.map_cons, List.map_nil, List.reverse_singleton, if_true, List.singleton_append]
      rw [hd]
      congr 2
      apply List.map_congr_left
      intro i hi
      have : i ≠ k := by have := List.mem_range.1 hi; omega
      simp [this]
    obtain ⟨Φ', D', hsame, hK, hall⟩ := ih (k + 1) _ _ _ hd' (fun j => by have := hl (j + 1); simpa [Nat.add_assoc, Nat.add_comm 1 j] using this) hrest
    have hk := hsame k (by omega)
    simp only [if_true] at hk
    have hlt : ∀ i, i < k → Φ' i = Φ i ∧ D' i = D i := fun i hi => by
      have := hsame i (by omega)
      have hne : i ≠ k := by omega
      simpa [hne] using this
    refine ⟨Φ', D', hlt, by rw [show k + (o :: rest).length = k + 1 + rest.length by simp; omega]; exact hK, fun i h1 h2 o' ho' => ?_⟩
    by_cases hik : i = k
    · subst hik
      obtain rfl : o = o' := by rw [h0] at ho'; exact Option.some.inj ho'
      rw [hk.1, hk.2]
      refine ⟨ho, hst, fun A W hW hsz hF hO => hstep A W hW ?_ ⟨hsz, ?_⟩⟩
      · intro p hp hpt
        rw [hd, List.mem_reverse, List.mem_map] at hp
        obtain ⟨j, hj, rfl⟩ := hp
        have hji := List.mem_range.1 hj
        have := hF j hji
        rw [(hlt j hji).1, (hlt j hji).2] at this
        exact this hpt
      · intro t ht htd
        refine hO t ht fun j hj => ?_
        rw [(hlt j hj).2]
        intro e
        apply htd
        rw [hd, List.mem_map]
        exact ⟨(D j, Φ j), by rw [List.mem_reverse, List.mem_map]; exact ⟨j, List.mem_range.2 hj, rfl⟩, e⟩
    · exact hall i (by omega) (by simp at h2; omega) o' ho'


theorem any_mem {α : Type} {xs : Array α} {p : α → Bool} (h : xs.any p = true) : ∃ x ∈ xs, p x = true := by
  rw [← Array.any_toList] at h
  obtain ⟨x, hx, hp⟩ := List.any_eq_true.1 h
  exact ⟨x, by simpa using hx, hp⟩

theorem flowOk_at {n : Nat} (h : flowOk ops n = true) {i : Nat} {o : Oper} (ho : ops[i]? = some o) : flowOkAt ops n i o = true := by
  simp only [flowOk, Bool.and_eq_true, List.all_eq_true, List.mem_range] at h
  have hi : i < ops.size := (Array.getElem?_eq_some_iff.1 ho).1
  have := h.2 i hi
  rw [ho] at this
  simpa using this

theorem flow_back {n i : Nat} {o : Oper} (h : flowOkAt ops n i o = true) : ∀ e ∈ o.after, Region.binds .any e = true → e.on < i := by
  intro e he hb
  simp only [flowOkAt, Bool.and_eq_true] at h
  have := Array.all_eq_true_iff_forall_mem.1 h.1.2 e he
  simpa [hb] using this

theorem flow_pair {n i j : Nat} {o oj : Oper} {d e : Tmp} (h : flowOkAt ops n i o = true) (hi : i < n) (hj : j < n) (hne : j ≠ i) (ho : ops[j]? = some oj) (hd : oj.dst = some d) (he : o.dst = some e) :
    d ≠ e ∧ (d ∈ o.looksAt ops → j < i ∧ ∃ x ∈ o.after, Region.binds .any x = true ∧ x.on = j) := by
  simp only [flowOkAt, Bool.and_eq_true, if_pos hi, List.all_eq_true, List.mem_range] at h
  have := h.2.2 j hj
  rw [ho] at this
  simp only [hd, he, Option.all_some, Bool.or_eq_true, beq_iff_eq, hne, false_or, Bool.and_eq_true, bne_iff_ne, ne_eq, Option.some.injEq, Bool.not_eq_true', List.contains_eq_mem, decide_eq_true_eq, decide_eq_false_iff_not] at this
  refine ⟨fun e' => this.1 e'.symm, fun hm => ?_⟩
  rcases this.2 with h1 | ⟨h1, h2⟩
  · exact absurd hm h1
  · obtain ⟨x, hx, hx2⟩ := any_mem h2
    simp only [Bool.and_eq_true, beq_iff_eq] at hx2
    exact ⟨h1, x, hx, hx2.1, hx2.2⟩

theorem flow_tail {n i : Nat} {o : Oper} (h : flowOkAt ops n i o = true) (hi : n ≤ i) : ∀ j, j < i → ∃ x ∈ o.after, Region.binds .any x = true ∧ x.on = j := by
  intro j hj
  simp only [flowOkAt, Bool.and_eq_true, if_neg (show ¬ i < n by omega), List.all_eq_true, List.mem_range] at h
  obtain ⟨x, hx, hx2⟩ := any_mem (h.2 j hj)
  simp only [Bool.and_eq_true, beq_iff_eq] at hx2
  exact ⟨x, hx, hx2.1, hx2.2⟩

theorem wpAny_tail {n : Nat} (hok : flowOk ops n = true) : ∀ (fuel m : Nat) (listed : Array Bool) (A : Act) (W : World), m + fuel = ops.size → n ≤ m → listed.size = ops.size →
    (∀ i, i < ops.size → listed.getD i false = decide (i < m)) → wpList P ops Q (ops.toList.drop m) A W → wpAny P .any ops Q fuel listed A W := by
  intro fuel
  induction fuel with
  | zero =>
    intro m listed A W hm hn hs hl h
    have hd : ops.toList.drop m = [] := List.drop_eq_nil_of_le (by simp; omega)
    rw [hd] at h
    refine ⟨?_, h⟩
    rw [List.eq_nil_iff_forall_not_mem]
    intro i hi
    obtain ⟨h0, o, ho, _⟩ := mem_ready.1 hi
    have hi' : i < ops.size := (Array.getElem?_eq_some_iff.1 ho).1
    have := hl i hi'
    have hi2 : i < listed.size := by omega
    simp [Array.getD, hi2] at h0 this
    rw [h0] at this
    simp at this
    omega
  | succ fuel ih =>
    intro m listed A W hm hn hs hl h
    have hlt : m < ops.size := by omega
    have hd : ops.toList.drop m = ops[m] :: ops.toList.drop (m + 1) := by
      rw [List.drop_eq_getElem_cons (by simpa using hlt)]; simp
    rw [hd] at h
    have hom : ops[m]? = some ops[m] := by simp [hlt]
    have hsz : m < listed.size := by omega
    have hmr : m ∈ Region.ready .any ops listed := mem_ready.2 ⟨by
        have := hl m hlt
        simp [Array.getD, hsz] at this ⊢
        exact this, ops[m], hom, fun e he hb => by
        have h1 := flow_back (flowOk_at hok hom) e he hb
        have := hl e.on (by omega)
        rw [this]; simpa using h1⟩
    refine ⟨fun e => (by rw [e] at hmr; cases hmr), fun i hi => ?_⟩
    have him : i = m := by
      obtain ⟨h0, o, ho, hall⟩ := mem_ready.1 hi
      have hi' : i < ops.size := (Array.getElem?_eq_some_iff.1 ho).1
      have hi2 : i < listed.size := by omega
      have hge : m ≤ i := by
        have := hl i hi'
        simp [Array.getD, hi2] at h0 this
        rw [h0] at this
        simpa using this
      rcases Nat.eq_or_lt_of_le hge with e | hgt
      · exact e.symm
      · obtain ⟨x, hx, hxb, hxo⟩ := flow_tail (flowOk_at hok ho) (by omega) m hgt
        have := hall x hx hxb
        rw [hxo, hl m hlt] at this
        simp at this
    subst him
    unfold wpOp
    rw [hom]
    have hK : ∀ A' W', wpList P ops Q (ops.toList.drop (i + 1)) A' W' → wpAny P .any ops Q fuel (listed.setIfInBounds i true) A' W' := fun A' W' h' =>
      ih (i + 1) _ A' W' (by omega) (by omega) (by simpa using hs) (fun j hj => by
        by_cases hji : j = i
        · subst hji; simp [Array.getD, hsz]
        · rw [getD_set_ne false (Ne.symm hji), hl j hj]
          simp; omega) h'
    simp only [wpList] at h ⊢
    split
    · rename_i hw; rw [if_pos hw] at h; exact h.imp (Oper.wp_mono hK) id
    · rename_i hw; rw [if_neg hw] at h; exact hK _ _ h


theorem eval_put_same {A : Act} {d : Tmp} {v : Value} (h : d < A.tmps.size) : (A.put (some d) v).eval (.tmp d) = v := by
  simp [Act.eval, Act.put, h]
theorem eval_put_other {A : Act} {d t : Tmp} {v : Value} (h : d ≠ t) : (A.put (some d) v).eval (.tmp t) = A.eval (.tmp t) :=
  Act.eval_put fun d' hd e => h (by cases hd; injection e with e; exact e.symm)

theorem count_set_true (l : List Bool) (i : Nat) (h : i < l.length) (hf : l[i] = false) : (l.set i true).count false + 1 = l.count false := by
  rw [List.count_set h, hf]
  have : 0 < l.count false := List.count_pos_iff.2 (hf ▸ List.getElem_mem h)
  simp; omega

theorem least {p : Nat → Prop} (h : ∃ i, p i) : ∃ i, p i ∧ ∀ j, j < i → ¬ p j := by
  obtain ⟨i, hi⟩ := h
  induction i using Nat.strongRecOn with
  | _ i ih =>
    by_cases hj : ∃ j, j < i ∧ p j
    · obtain ⟨j, h1, h2⟩ := hj
      exact ih j h1 h2
    · exact ⟨i, hi, fun j h1 h2 => hj ⟨j, h1, h2⟩⟩

/-- What stands between two operations of the region. -/
structure FInv (ops : Array Oper) (w0 : World) (a : Act) (n : Nat) (Φ : Nat → Pred) (D : Nat → Tmp) (listed : Array Bool) (A : Act) (W : World) : Prop where
  size : listed.size = ops.size
  late : ∀ i, n ≤ i → listed.getD i false = false
  ext : Ext w0 W
  tmps : A.tmps.size = a.tmps.size
  defers : A.defers = a.defers
  has : ∀ i, i < n → listed.getD i false = true → Φ i (A.eval (.tmp (D i))) W
  out : ∀ t, (∀ i, i < n → listed.getD i false = true → D i ≠ t) → A.eval (.tmp t) = a.eval (.tmp t)

theorem getD_tf {listed : Array Bool} {i : Nat} (h : i < listed.size) : listed.getD i true = listed.getD i false := by simp [Array.getD, h]

theorem wpAny_flow {n : Nat} {Φ : Nat → Pred} {D : Nat → Tmp} (hok : flowOk ops n = true) (hn : n ≤ ops.size) (hD : ∀ i, i < n → D i < a.tmps.size) (hall : FlowAll P ops w0 a n Φ D)
    (hend : ∀ A W, Ext w0 W → A.tmps.size = a.tmps.size → A.defers = a.defers → (∀ i, i < n → Φ i (A.eval (.tmp (D i))) W) → (∀ t, (∀ i, i < n → D i ≠ t) → A.eval (.tmp t) = a.eval (.tmp t)) →
      wpList P ops Q (ops.toList.drop n) A W) :
    ∀ (fuel : Nat) (listed : Array Bool) (A : Act) (W : World), fuel = listed.toList.count false → FInv ops w0 a n Φ D listed A W → wpAny P .any ops Q fuel listed A W := by
  intro fuel
  induction fuel with
  | zero =>
    intro listed A W hc hI
    have hlt : ∀ i, i < ops.size → listed.getD i false = true := by
      intro i hi
      have hi' : i < listed.size := by rw [hI.size]; exact hi
      cases hb : listed.getD i false with
      | true => rfl
      | false =>
        exfalso
        have hm : false ∈ listed.toList := by
          rw [← hb]; simp [Array.getD, hi']
        have := List.count_pos_iff.2 hm
        omega
    have hnn : n = ops.size := by
      rcases Nat.lt_or_ge n ops.size with h | h
      · have := hI.late n (Nat.le_refl _); rw [hlt n h] at this; cases this
      · omega
    have hw := hend A W hI.ext hI.tmps hI.defers (fun i hi => hI.has i hi (hlt i (by omega))) (fun t ht => hI.out t fun i hi _ => ht i hi)
    exact wpAny_tail hok 0 n listed A W (by omega) (Nat.le_refl _) hI.size (fun i hi => by rw [hlt i hi]; simp; omega) hw
  | succ fuel ih =>
    intro listed A W hc hI
    by_cases hdone : ∀ i, i < n → listed.getD i false = true
    · have hw := hend A W hI.ext hI.tmps hI.defers (fun i hi => hI.has i hi (hdone i hi)) (fun t ht => hI.out t fun i hi _ => ht i hi)
      refine wpAny_tail hok (fuel + 1) n listed A W ?_ (Nat.le_refl _) hI.size (fun i hi => ?_) hw
      · have hl : listed.toList = List.replicate n true ++ List.replicate (ops.size - n) false := by
          apply List.ext_getElem
          · simp [hI.size]; omega
          · intro i h1 h2
            have h1' : i < listed.size := by simpa using h1
            have e : listed.toList[i] = listed.getD i false := by simp [Array.getD, h1']
            rw [e]
            by_cases hin : i < n
            · rw [hdone i hin, List.getElem_append_left (by simpa using hin)]; simp
            · rw [hI.late i (by omega), List.getElem_append_right (by simp; omega)]; simp
        rw [hl, List.count_append] at hc
        simp [List.count_replicate] at hc
        omega
      · by_cases hin : i < n
        · rw [hdone i hin]; simp [hin]
        · rw [hI.late i (by omega)]; simp [hin]
    · have hne : ∃ i, i ∈ Region.ready .any ops listed := by
        have hex : ∃ i, i < n ∧ listed.getD i false = false := by
          refine Classical.byContradiction fun hno => hdone fun i hi => ?_
          cases hb : listed.getD i false with
          | true => rfl
          | false => exact absurd ⟨i, hi, hb⟩ hno
        obtain ⟨i, ⟨hi, hf⟩, hmin⟩ : ∃ i, (i < n ∧ listed.getD i false = false) ∧ ∀ j, j < i → ¬ (j < n ∧ listed.getD j false = false) := by
          obtain ⟨i, h⟩ := hex
          exact least ⟨i, h⟩
        have hio : ops[i]? = some ops[i] := by simp [show i < ops.size by omega]
        refine ⟨i, mem_ready.2 ⟨by rw [getD_tf (by rw [hI.size]; omega)]; exact hf, _, hio, fun e he hb => ?_⟩⟩
        have := flow_back (flowOk_at hok hio) e he hb
        cases hb2 : listed.getD e.on false with
        | true => rfl
        | false => exact absurd ⟨by omega, hb2⟩ (hmin e.on this)
      refine ⟨fun e => (by obtain ⟨i, hi⟩ := hne; rw [e] at hi; cases hi), fun i hi => ?_⟩
      obtain ⟨h0, o, ho, hdeps⟩ := mem_ready.1 hi
      have hio : i < ops.size := (Array.getElem?_eq_some_iff.1 ho).1
      have hf : listed.getD i false = false := by rw [← getD_tf (by rw [hI.size]; exact hio)]; exact h0
      have hin : i < n := by
        refine Classical.byContradiction fun hge => hdone fun j hj => ?_
        obtain ⟨x, hx, hxb, hxo⟩ := flow_tail (flowOk_at hok ho) (by omega) j (by omega)
        rw [← hxo]; exact hdeps x hx hxb
      obtain ⟨hdst, hst, hstep⟩ := hall i hin o ho
      have hpair : ∀ j, j < n → j ≠ i → D j ≠ D i ∧ (D j ∈ o.looksAt ops → j < i ∧ listed.getD j false = true) := by
        intro j hj hji
        have hoj : ops[j]? = some ops[j] := by simp [show j < ops.size by omega]
        obtain ⟨h1, h2⟩ := flow_pair (flowOk_at hok ho) hin hj hji hoj (hall j hj _ hoj).1 hdst
        refine ⟨h1, fun hm => ?_⟩
        obtain ⟨h3, x, hx, hxb, hxo⟩ := h2 hm
        exact ⟨h3, by rw [← hxo]; exact hdeps x hx hxb⟩
      have hs := hstep A W hI.ext hI.tmps (fun j hj hm => hI.has j (by omega) ((hpair j (by omega) (by omega)).2 hm).2) (fun t ht htd => hI.out t fun j hj hlj e => by
        subst e
        by_cases hji : j = i
        · subst hji; rw [hf] at hlj; cases hlj
        · exact htd j ((hpair j hj hji).2 ht).1 rfl)
      have hnext : ∀ v W', Ext W W' ∧ Φ i v W' → wpAny P .any ops Q fuel (listed.setIfInBounds i true) (A.put o.dst v) W' := by
        intro v W' ⟨hE, hφ⟩
        have hil : i < listed.size := by rw [hI.size]; exact hio
        have hDi : D i < A.tmps.size := by rw [hI.tmps]; exact hD i hin
        refine ih _ _ _ ?_ ⟨by simpa using hI.size, ?_, hI.ext.trans hE, ?_, ?_, ?_, ?_⟩
        · have hcs := count_set_true listed.toList i (by simpa using hil) (by simpa [Array.getD, hil] using hf)
          simp only [Array.toList_setIfInBounds]
          omega
        · intro j hj
          rw [getD_set_ne false (show i ≠ j by omega)]; exact hI.late j hj
        · rw [hdst]; simp [Act.put, hI.tmps]
        · rw [hdst]; simp [Act.put, hI.defers]
        · intro j hj hlj
          rw [hdst]
          by_cases hji : j = i
          · subst hji; rw [eval_put_same hDi]; exact hφ
          · rw [getD_set_ne false (Ne.symm hji)] at hlj
            rw [eval_put_other (Ne.symm (hpair j hj hji).1)]
            have hoj : ops[j]? = some ops[j] := by simp [show j < ops.size by omega]
            exact (hall j hj _ hoj).2.1 _ _ _ (hI.has j hj hlj) hE
        · intro t ht
          rw [hdst]
          have hti : D i ≠ t := ht i hin (by simp [Array.getD, hil])
          rw [eval_put_other hti]
          refine hI.out t fun j hj hlj => ht j hj ?_
          by_cases hji : j = i
          · subst hji; simp [Array.getD, hil]
          · rw [getD_set_ne false (Ne.symm hji)]; exact hlj
      unfold wpOp
      rw [ho]
      unfold FStep at hs
      show if Region.wanted o (yielded ops A.tmps) = true then _ else _
      split
      · rename_i hw
        rw [if_pos hw] at hs
        refine .inl (Oper.wp_mono ?_ (wp_of_noQ hs))
        rintro A' W' ⟨v, rfl, hp⟩
        exact hnext v W' hp
      · rename_i hw
        rw [if_neg hw] at hs
        exact hnext _ _ hs


theorem putAll_size (a : Act) (f : Tmp → Value) (ts : List Tmp) : (putAll a f ts).tmps.size = a.tmps.size := by
  induction ts with
  | nil => rfl
  | cons t ts ih => simp [putAll, Act.put, ih]
theorem putAll_defers (a : Act) (f : Tmp → Value) (ts : List Tmp) : (putAll a f ts).defers = a.defers := by
  induction ts with
  | nil => rfl
  | cons t ts ih => simp [putAll, Act.put, ih]
theorem putAll_eval (a : Act) (f : Tmp → Value) (ts : List Tmp) (t : Tmp) : (putAll a f ts).eval (.tmp t) = if t ∈ ts ∧ t < a.tmps.size then f t else a.eval (.tmp t) := by
  induction ts with
  | nil => simp [putAll]
  | cons u ts ih =>
    by_cases h : u = t
    · subst h
      by_cases hs : u < a.tmps.size
      · rw [putAll, eval_put_same (by rw [putAll_size]; exact hs)]; simp [hs]
      · rw [if_neg (by simp [hs])]
        have h1 : (putAll a f (u :: ts)).tmps.size = a.tmps.size := putAll_size _ _ _
        simp [Act.eval, Array.getD, h1, hs]
    · rw [putAll, eval_put_other h, ih]
      simp [Ne.symm h]

theorem act_ext {A B : Act} (h1 : A.tmps.size = B.tmps.size) (h2 : A.defers = B.defers) (h : ∀ t, A.eval (.tmp t) = B.eval (.tmp t)) : A = B := by
  obtain ⟨x, d⟩ := A
  obtain ⟨y, e⟩ := B
  simp only at h1 h2
  subst h2
  congr 1
  apply Array.ext h1
  intro i hi hj
  have := h i
  simpa [Act.eval, Array.getD, hi, hj] using this

/-- A region that draws its order, its first n operations each run in whatever world the others may have left, the others one after the other. -/
theorem wp_region_flow {id : Nat} {l : List Oper} {a : Act} {w0 : World} (n : Nat) (hm : P.follows .mixedOrders = true) (hok : flowOk l.toArray n = true)
    (hs : (l.take n).all (fun o => o.dst.all fun d => decide (d < a.tmps.size)) = true)
    (h : FlowGo P l.toArray w0.drew a (fun done => ∀ (f : Tmp → Value) W, Ext w0.drew W → (∀ p ∈ done, p.2 (f p.1) W) → wpList P l.toArray Q (l.drop n) (putAll a f (done.map (·.1))) W) [] (l.take n)) :
    (Code.region id l.toArray true).wp P Q a w0 := by
  have hn : n ≤ l.length := by
    simp only [flowOk, Bool.and_eq_true, decide_eq_true_eq] at hok
    simpa using hok.1
  have hlen : (l.take n).length = n := by simp [hn]
  obtain ⟨Φ, D, _, hK, hall⟩ := flowAll_of_go (l.take n) 0 [] (fun _ _ _ => True) (fun _ => 0) rfl (fun j => by
    rw [hlen]
    by_cases hj : j < n
    · simp [hj]
    · rw [if_neg hj]; exact List.getElem?_eq_none (by rw [hlen]; omega)) h
  rw [Nat.zero_add, hlen] at hK
  have hD : ∀ i, i < n → D i < a.tmps.size := by
    intro i hi
    have hio : l.toArray[i]? = some l[i] := by simp [show i < l.length by omega]
    have h1 := (hall i (Nat.zero_le _) (by rw [hlen]; omega) _ hio).1
    have := List.all_eq_true.1 hs l[i] (List.mem_take_iff_getElem.2 ⟨i, by omega, rfl⟩)
    rw [h1] at this
    simpa using this
  refine wp_region_any hm (wpAny_flow (n := n) (Φ := Φ) (D := D) (w0 := w0.drew) (a := a) hok (by simpa using hn) hD
    (fun i hi o ho => hall i (Nat.zero_le _) (by rw [hlen]; omega) o ho) ?_ _ _ _ _ ?_ ⟨by simp, ?_, Mods.refl _ _, rfl, rfl, ?_, fun _ _ => rfl⟩)
  · intro A W hE hsz hdf hhas hout
    have hw := hK (fun t => A.eval (.tmp t)) W hE (fun p hp => by
      rw [List.mem_reverse, List.mem_map] at hp
      obtain ⟨i, hi, rfl⟩ := hp
      exact hhas i (List.mem_range.1 hi))
    have hA : putAll a (fun t => A.eval (.tmp t)) ((((List.range n).map fun i => (D i, Φ i)).reverse).map (·.1)) = A := by
      refine act_ext (by rw [putAll_size, hsz]) (by rw [putAll_defers, hdf]) fun t => ?_
      rw [putAll_eval]
      split
      · rfl
      · rename_i hno
        by_cases ht : t < a.tmps.size
        · refine (hout t fun i hi e => hno ⟨?_, ht⟩).symm
          rw [List.mem_map]
          exact ⟨(D i, Φ i), by rw [List.mem_reverse, List.mem_map]; exact ⟨i, List.mem_range.2 hi, rfl⟩, e⟩
        · simp [Act.eval, Array.getD, ht, hsz]
    rw [hA] at hw
    simpa using hw
  · simp
  · intro i hi
    by_cases h : i < l.length <;> simp [Array.getD, h]
  · intro i hi hl
    by_cases h : i < l.length <;> simp [Array.getD, h] at hl


section
variable {K : List (Tmp × Pred) → Prop} {done : List (Tmp × Pred)} {o : Oper} {rest : List Oper} {d : Tmp}

end

/-- A world that other operations of the region may have left. -/
structure SW (w0 : World) where
  w : World
  h : Ext w0 w
instance (w0 : World) : Inhabited (SW w0) := ⟨⟨w0, Mods.refl _ _⟩⟩
theorem ext_same {P : Program} {f : FuncId} {args : Array Value} {w : World} {c : Value} (h : Calls P f args w fun e w' => e = .returned c ∧ w = w') : Calls P f args w fun e w' => e = .returned c ∧ Ext w w' :=
  h.mono fun _ _ ⟨h1, h2⟩ => ⟨h1, h2 ▸ Mods.refl _ _⟩
def InSW (w0 : World) : World → Prop := fun w => ∃ x : SW w0, w = x.w

theorem SW.cell {w0 : World} (x : SW w0) (b o : Nat) (h : b < w0.heap.size) : x.w.cell? ⟨b, o, none⟩ = w0.cell? ⟨b, o, none⟩ := x.h.cell (p := ⟨b, o, none⟩) h (fun hh => hh)
theorem SW.frozen {w0 : World} (x : SW w0) (b o : Nat) (h : b < w0.heap.size) : x.w.frozen? ⟨b, o, none⟩ = w0.frozen? ⟨b, o, none⟩ := x.h.frozen (p := ⟨b, o, none⟩) h (fun hh => hh)
@[go_sem] theorem SW.cellD {w0 : World} (x : SW w0.drew) (b o : Nat) (h : b < w0.heap.size) : x.w.cell? ⟨b, o, none⟩ = w0.cell? ⟨b, o, none⟩ := x.cell b o h
@[go_sem] theorem SW.frozenD {w0 : World} (x : SW w0.drew) (b o : Nat) (h : b < w0.heap.size) : x.w.frozen? ⟨b, o, none⟩ = w0.frozen? ⟨b, o, none⟩ := x.frozen b o h
theorem SW.call {w0 : World} {x : SW w0} {f : FuncId} {args : Array Value} {v : Value} (h : Calls P f args x.w fun e w' => e = .returned v ∧ Ext x.w w') :
    Calls P f args x.w fun e w'' => e = .returned v ∧ ∃ y : SW w0, w'' = y.w := h.mono fun e w' ⟨he, hE⟩ => ⟨he, ⟨w', x.h.trans hE⟩, rfl⟩
/-- Operations that are no call of a Go function. -/
def plainOp (o : Oper) : Bool :=
  match o.op with
  | .move _ | .assign _ | .load .. | .binOp .. | .unOp .. | .convert .. | .field .. | .fieldAddr .. | .index .. | .indexAddr .. | .slice .. | .build .. | .extract .. | .makeInterface .. | .lookup .. | .pick .. => true
  | .call { callee := .builtin .len, .. } | .call { callee := .builtin .cap, .. } | .call { callee := .builtin .min, .. } | .call { callee := .builtin .max, .. } => true
  | _ => false

theorem run_vf {α : Type} {s : Sem α} {g : α → Value} {W W' : World} {f : FuncId} {args : Array Value} : Sem.run P (s.bind fun v => Sem.pure (Next.value (g v))) W ≠ .ok (.enter f args) W' := by
  rw [Sem.run_bind']
  cases Sem.run P s W with
  | ok v w => intro h; simp [Sem.run] at h
  | halt x w => intro h; simp at h

theorem plainOp_run {o : Oper} (h : plainOp o = true) (ρ : Operand → Value) {W W' : World} {f : FuncId} {args : Array Value} : (execOp ρ o).run P W ≠ .ok (.enter f args) W' := by
  unfold plainOp at h
  unfold execOp
  split at h
  all_goals first
    | (cases h; done)
    | (rename_i e; rw [e]; first | exact run_vf (g := fun v => v) | exact run_vf (s := asBool _) (g := fun b => if b = true then _ else _) | (intro hh; simp [Sem.run, Pure.pure] at hh; done) | exact run_vf (s := Builtin.len_ ..) (g := fun v => v) | exact run_vf (s := Builtin.cap_ ..) (g := fun v => v) | exact run_vf (s := Builtin.min_ ..) (g := fun v => v) | exact run_vf (s := Builtin.max_ ..) (g := fun v => v))

def farOf (ops : Array Oper) (rels : List (Tmp × Pred)) (o : Oper) : Bool := (match o.op with | .select .. => false | _ => true) && rels.all fun p => !(o.looksAt ops).contains p.1 && o.dst != some p.1

def FlowX (P : Program) (ops : Array Oper) (w0 : World) (E : Act → List (Tmp × Pred) → Prop) : List (Tmp × Pred) → List Oper → Act → Prop
  | rels, [], a => E a rels
  | rels, o :: rest, a =>
    (farOf ops rels o = true ∧ plainOp o = true ∧ if Region.wanted o (yielded ops a.tmps) then o.quiet P a (InSW w0) (FlowX P ops w0 E rels rest) else FlowX P ops w0 E rels rest (a.put o.dst undef)) ∨
    (farOf ops rels o = true ∧ ∃ c, Region.wanted o (yielded ops a.tmps) = true ∧ (∀ x : SW w0, o.wp P a x.w (fun A' W' => A' = a.put o.dst c ∧ Ext x.w W') NoQ) ∧ FlowX P ops w0 E rels rest (a.put o.dst c)) ∨
    (∃ (d : Tmp) (φ : Pred), o.dst = some d ∧ rels.all (fun p => d != p.1) = true ∧ Stable φ ∧
      (∀ A W, Ext w0 W → (∀ t ∈ o.looksAt ops, (∀ p ∈ rels, p.1 ≠ t) → A.eval (.tmp t) = a.eval (.tmp t)) → (∀ p ∈ rels, p.1 ∈ o.looksAt ops → p.2 (A.eval (.tmp p.1)) W) →
        FStep P ops o A W (fun v W' => Ext W W' ∧ φ v W')) ∧ FlowX P ops w0 E ((d, φ) :: rels) rest a)

theorem FlowX.seg {E : Act → List (Tmp × Pred) → Prop} {rels : List (Tmp × Pred)} {rest : List Oper} : ∀ (l : List Oper) (a : Act), l.all (fun o => farOf ops rels o && plainOp o) = true →
    wpQuiet P ops (fun w => ∃ x : SW w0, w = x.w) (FlowX P ops w0 E rels rest) l a → FlowX P ops w0 E rels (l ++ rest) a
  | [], _, _, h => h
  | o :: l, a, hf, h => by
    simp only [List.all_cons, Bool.and_eq_true] at hf
    refine .inl ⟨hf.1.1, hf.1.2, ?_⟩
    unfold wpQuiet at h
    split
    · rename_i hw; rw [if_pos hw] at h
      exact Oper.quiet_mono (fun a' h' => FlowX.seg l a' hf.2 h') h
    · rename_i hw; rw [if_neg hw] at h
      exact FlowX.seg l _ hf.2 h

theorem run_callF {f : FuncId} {fn : Func} {xs : Array Operand} {ats : Array TypeId} {o : Oper} {A : Act} (hop : o.op = .call { callee := .value (.func f), args := xs, argTypes := ats }) (hfn : P.funcs[f]? = some fn) (hn : (fn.name == "runtime.NumGoroutine") = false) (hb : fn.body.isNone = false) (w : World) :
    (execOp A.eval o).run P w = .ok (.enter f (xs.map A.eval)) w := by
  obtain ⟨dst, op, ty, pos, after, guard⟩ := o
  simp only at hop
  subst hop
  rw [execOp_call_go]
  show Sem.run P (callFunc f _) w = _
  unfold callFunc
  have hn' : ¬ fn.name = "runtime.NumGoroutine" := by simpa using hn
  have hb' : ¬ fn.body = none := by intro e; rw [e] at hb; cases hb
  simp [hfn, hn', hb']

/-- A call with one outcome. -/
theorem FlowX.call {E : Act → List (Tmp × Pred) → Prop} {rels : List (Tmp × Pred)} {rest : List Oper} {o : Oper} {a : Act} {c : Value} {f : FuncId} {fn : Func} {xs : Array Operand} {ats : Array TypeId} {args : Array Value}
    (hop : o.op = .call { callee := .value (.func f), args := xs, argTypes := ats }) (hfn : P.funcs[f]? = some fn) (hn : (fn.name == "runtime.NumGoroutine") = false) (hb : fn.body.isNone = false)
    (hf : farOf ops rels o = true) (hw : Region.wanted o (yielded ops a.tmps) = true) (hc : ∀ x : SW w0, Calls P f args x.w fun e W' => e = .returned c ∧ Ext x.w W') (hargs : xs.map a.eval = args)
    (hr : FlowX P ops w0 E rels rest (a.put o.dst c)) : FlowX P ops w0 E rels (o :: rest) a :=
  .inr (.inl ⟨hf, c, hw, fun x => by
    unfold Oper.wp
    rw [run_callF hop hfn hn hb, hargs]
    refine Calls.mono (hc x) fun e W' he => ?_
    obtain ⟨rfl, hE⟩ := he
    exact ⟨rfl, hE⟩, hr⟩)

theorem FlowX.val {E : Act → List (Tmp × Pred) → Prop} {rels : List (Tmp × Pred)} {rest : List Oper} {o : Oper} {a : Act} (c : Value) (hf : farOf ops rels o = true) (hw : Region.wanted o (yielded ops a.tmps) = true)
    (hrun : ∀ x : SW w0, (execOp a.eval o).run P x.w = .ok (.value c) x.w) (hr : FlowX P ops w0 E rels rest (a.put o.dst c)) : FlowX P ops w0 E rels (o :: rest) a :=
  .inr (.inl ⟨hf, c, hw, fun x => by
    unfold Oper.wp
    rw [hrun]
    exact ⟨rfl, Mods.refl _ _⟩, hr⟩)

theorem FlowX.fin {E : Act → List (Tmp × Pred) → Prop} {rels : List (Tmp × Pred)} {a : Act} (h : E a rels) : FlowX P ops w0 E rels [] a := h

structure FRel (a0 : Act) (done rels : List (Tmp × Pred)) (a : Act) : Prop where
  tmps : a.tmps.size = a0.tmps.size
  defers : a.defers = a0.defers
  same : ∀ (A : Act) (W : World) (ts : List Tmp), FHas done ts A W → FOut done ts a0 A → ∀ t ∈ ts, (∀ p ∈ rels, p.1 ≠ t) → A.eval (.tmp t) = a.eval (.tmp t)
  rel : ∀ (A : Act) (W : World) (ts : List Tmp), FHas done ts A W → FOut done ts a0 A → ∀ p ∈ rels, p.1 ∈ ts → p.2 (A.eval (.tmp p.1)) W
  sub : ∀ p ∈ rels, p.1 ∈ done.map (·.1)

theorem fhas_filter {done : List (Tmp × Pred)} {ts : List Tmp} {A : Act} {W : World} {d : Tmp} {φ : Pred} (h : FHas ((d, φ) :: done) ts A W) : FHas done (ts.filter (· != d)) A W ∧ (d ∈ ts → φ (A.eval (.tmp d)) W) :=
  ⟨fun p hp ht => h p (List.mem_cons_of_mem _ hp) (List.mem_filter.1 ht).1, fun hd => h (d, φ) (List.mem_cons_self ..) hd⟩
theorem fout_filter {done : List (Tmp × Pred)} {ts : List Tmp} {a0 A : Act} {d : Tmp} {φ : Pred} (h : FOut ((d, φ) :: done) ts a0 A) : FOut done (ts.filter (· != d)) a0 A := ⟨h.1, fun t ht hn => by
  have := List.mem_filter.1 ht
  refine h.2 t this.1 ?_
  simp only [List.map_cons, List.mem_cons, not_or]
  exact ⟨by simpa using this.2, hn⟩⟩

theorem FRel.exact {a0 a : Act} {done rels : List (Tmp × Pred)} (h : FRel a0 done rels a) {d : Tmp} (c : Value) (hd : d < a0.tmps.size) (hf : ∀ p ∈ rels, p.1 ≠ d) :
    FRel a0 ((d, fun v _ => v = c) :: done) rels (a.put (some d) c) := by
  refine ⟨by simp [Act.put, h.tmps], by simp [Act.put, h.defers], ?_, ?_, fun p hp => List.mem_cons_of_mem _ (h.sub p hp)⟩
  · intro A W ts h1 h2 t ht hn
    obtain ⟨h3, h4⟩ := fhas_filter h1
    by_cases e : d = t
    · subst e
      rw [eval_put_same (by rw [h.tmps]; exact hd)]; exact h4 ht
    · rw [eval_put_other e]
      exact h.same A W _ h3 (fout_filter h2) t (List.mem_filter.2 ⟨ht, by simpa using Ne.symm e⟩) hn
  · intro A W ts h1 h2 p hp ht
    exact h.rel A W _ (fhas_filter h1).1 (fout_filter h2) p hp (List.mem_filter.2 ⟨ht, by simpa using hf p hp⟩)

theorem FRel.relate {a0 a : Act} {done rels : List (Tmp × Pred)} (h : FRel a0 done rels a) {d : Tmp} (φ : Pred) (hf : ∀ p ∈ rels, p.1 ≠ d) :
    FRel a0 ((d, φ) :: done) ((d, φ) :: rels) a := by
  refine ⟨h.tmps, h.defers, ?_, ?_, ?_⟩
  · intro A W ts h1 h2 t ht hn
    have e : d ≠ t := hn (d, φ) (List.mem_cons_self ..)
    exact h.same A W _ (fhas_filter h1).1 (fout_filter h2) t (List.mem_filter.2 ⟨ht, by simpa using Ne.symm e⟩) fun p hp => hn p (List.mem_cons_of_mem _ hp)
  · intro A W ts h1 h2 p hp ht
    rcases List.mem_cons.1 hp with rfl | hp
    · exact (fhas_filter h1).2 ht
    · exact h.rel A W _ (fhas_filter h1).1 (fout_filter h2) p hp (List.mem_filter.2 ⟨ht, by simpa using hf p hp⟩)
  · intro p hp
    rcases List.mem_cons.1 hp with rfl | hp
    · simp
    · exact List.mem_cons_of_mem _ (h.sub p hp)

theorem flowGo_of_x {E : Act → List (Tmp × Pred) → Prop} {K : List (Tmp × Pred) → Prop} {a0 : Act} (hE : ∀ done rels a, FRel a0 done rels a → (∀ p ∈ done, p.1 < a0.tmps.size) → E a rels → K done) :
    ∀ (l : List Oper) (done rels : List (Tmp × Pred)) (a : Act), (l.all fun o => match o.dst with | some d => decide (d < a0.tmps.size) | none => false) = true → (∀ p ∈ done, p.1 < a0.tmps.size) →
      FRel a0 done rels a → FlowX P ops w0 E rels l a → FlowGo P ops w0 a0 K done l
  | [], done, rels, a, _, hs, hR, h => hE done rels a hR hs h
  | o :: rest, done, rels, a, hl, hs, hR, h => by
    simp only [List.all_cons, Bool.and_eq_true] at hl
    obtain ⟨d, hd, hda⟩ : ∃ d, o.dst = some d ∧ d < a0.tmps.size := by
      have := hl.1
      split at this
      · rename_i d hd; exact ⟨d, hd, by simpa using this⟩
      · cases this
    have hs' : ∀ (φ : Pred), ∀ p ∈ (d, φ) :: done, p.1 < a0.tmps.size := fun φ p hp => by
      rcases List.mem_cons.1 hp with rfl | hp
      · exact hda
      · exact hs p hp
    unfold FlowX at h
    rcases (or_assoc.2 h) with h | ⟨d', φ, hd', hfar, hst, hstep, h⟩
    · have hfar : farOf ops rels o = true := h.elim (·.1) (·.1)
      have hf1 : ∀ p ∈ rels, p.1 ∉ o.looksAt ops ∧ p.1 ≠ d := fun p hp => by
        have := List.all_eq_true.1 (Bool.and_eq_true_iff.1 hfar).2 p hp
        simp only [Bool.and_eq_true, Bool.not_eq_true', List.contains_eq_mem, decide_eq_false_iff_not, bne_iff_ne, ne_eq, hd, Option.some.injEq] at this
        exact ⟨this.1, fun e => this.2 e.symm⟩
      have agree : ∀ A W, FHas done (o.looksAt ops) A W → FOut done (o.looksAt ops) a0 A → ∀ t ∈ o.looksAt ops, A.eval (.tmp t) = a.eval (.tmp t) := fun A W h1 h2 t ht =>
        hR.same A W _ h1 h2 t ht fun p hp e => (hf1 p hp).1 (e ▸ ht)
      have hns : ∀ cs b, o.op ≠ .select cs b := fun cs b e => by
        have := (Bool.and_eq_true_iff.1 hfar).1
        rw [e] at this; cases this
      have hexec : ∀ A W, FHas done (o.looksAt ops) A W → FOut done (o.looksAt ops) a0 A → execOp A.eval o = execOp a.eval o := fun A W h1 h2 =>
        execOp_congr o hns fun x hx => by
          cases x with
          | tmp t => exact agree A W h1 h2 t (List.mem_append_left _ (List.mem_filterMap.2 ⟨.tmp t, by simpa using hx, rfl⟩))
          | _ => rfl
      have hwant : ∀ A W, FHas done (o.looksAt ops) A W → FOut done (o.looksAt ops) a0 A → Region.wanted o (yielded ops A.tmps) = Region.wanted o (yielded ops a.tmps) := fun A W h1 h2 => by
        have hsz : A.tmps.size = a.tmps.size := by rw [h2.1, hR.tmps]
        unfold Region.wanted
        cases hg : o.guard with
        | none => rfl
        | some gw =>
          obtain ⟨g, want⟩ := gw
          have hy : yielded ops A.tmps g = yielded ops a.tmps g := by
            unfold yielded
            cases ht : (ops[g]?).bind (·.dst) with
            | none => rfl
            | some t =>
              have he := agree A W h1 h2 t (List.mem_append_right _ (by simp [hg, ht]))
              by_cases hts : t < A.tmps.size
              · have hts' : t < a.tmps.size := by rw [← hsz]; exact hts
                simp [Act.eval, Array.getD, hts, hts'] at he
                simp [hts, hts', he]
              · have hts' : ¬ t < a.tmps.size := by rw [← hsz]; exact hts
                simp [hts, hts']
          simp only [hy]
      rcases h with ⟨_, hpl, h⟩ | ⟨_, c, hw, hq, hnext⟩
      · split at h
        · rename_i hw
          obtain ⟨v, hq, hnext⟩ := h
          rw [hd] at hnext
          refine ⟨d, _, hd, stable_eq v, fun A W h1 h2 h3 => ?_, flowGo_of_x hE rest _ _ _ hl.2 (hs' _) (hR.exact v hda fun p hp => (hf1 p hp).2) hnext⟩
          unfold FStep
          rw [hwant A W h2 h3, if_pos hw]
          have hq1 := hq W ⟨⟨W, h1⟩, rfl⟩
          have hne := fun f args W' => plainOp_run (P := P) hpl a.eval (W := W) (W' := W') (f := f) (args := args)
          unfold Oper.quietAt at hq1
          unfold Oper.wp
          rw [hexec A W h2 h3]
          generalize (execOp a.eval o).run P W = r at *
          cases r with
          | ok nx w' =>
            cases nx <;> simp only [Oper.quietUpon] at hq1 <;> simp only [Oper.upon]
            case value u =>
              obtain ⟨e1, e2⟩ := hq1
              exact ⟨v, by rw [e2], by rw [e1]; exact Mods.refl _ _, rfl⟩
            case skip =>
              obtain ⟨e1, e2⟩ := hq1
              exact ⟨v, by rw [e2], by rw [e1]; exact Mods.refl _ _, rfl⟩
            case enter f args => exact absurd rfl (hne f args w')
          | halt x w' => simp only [Oper.quietUpon] at hq1
        · rename_i hw
          rw [hd] at h
          refine ⟨d, _, hd, stable_eq undef, fun A W h1 h2 h3 => ?_, flowGo_of_x hE rest _ _ _ hl.2 (hs' _) (hR.exact undef hda fun p hp => (hf1 p hp).2) h⟩
          unfold FStep
          rw [hwant A W h2 h3, if_neg hw]
          exact ⟨Mods.refl _ _, rfl⟩
      · rw [hd] at hnext
        refine ⟨d, _, hd, stable_eq c, fun A W h1 h2 h3 => ?_, flowGo_of_x hE rest _ _ _ hl.2 (hs' _) (hR.exact c hda fun p hp => (hf1 p hp).2) hnext⟩
        unfold FStep
        rw [hwant A W h2 h3, if_pos hw]
        have hq1 := hq ⟨W, h1⟩
        have hdsz : d < a.tmps.size := by rw [hR.tmps]; exact hda
        unfold Oper.wp at hq1 ⊢
        rw [hexec A W h2 h3]
        have hput : ∀ v, a.put o.dst v = a.put o.dst c → v = c := fun v e => by
          have := congrArg (fun b => b.eval (.tmp d)) e
          simpa [hd, eval_put_same hdsz] using this
        dsimp only at hq1
        generalize (execOp a.eval o).run P W = r at *
        cases r with
        | ok nx w' =>
          cases nx <;> simp only [Oper.upon] at hq1 ⊢
          case value u => exact ⟨c, by rw [hput u hq1.1], hq1.2, rfl⟩
          case skip => exact ⟨c, by rw [hput _ hq1.1], hq1.2, rfl⟩
          case defer dd =>
            exfalso
            have := congrArg (fun b => b.defers.length) hq1.1
            simp [hd, Act.put] at this
          case enter f args =>
            refine Calls.mono hq1 fun e W' he => ?_
            cases e with
            | returned u => exact ⟨c, by rw [hput u he.1], he.2, rfl⟩
            | panicked ch => exact (he : False).elim
            | outgrown => obtain ⟨_, _, hh⟩ := he; exact (hh : False).elim
          case row row args => exact Rows.mono hq1 fun u W' he => ⟨c, by rw [hput u he.1], he.2, rfl⟩
        | halt x w' => cases x <;> simp only [Oper.upon] at hq1 ⊢ <;> exact (hq1 : False).elim
    · obtain rfl : d = d' := by rw [hd] at hd'; exact Option.some.inj hd'
      have hf1 : ∀ p ∈ rels, p.1 ≠ d := fun p hp => by
        have := List.all_eq_true.1 hfar p hp
        simp at this
        exact fun e => this e.symm
      exact ⟨d, φ, hd, hst, fun A W h1 h2 h3 => hstep A W h1 (hR.same A W _ h2 h3) (hR.rel A W _ h2 h3),
        flowGo_of_x hE rest _ _ a hl.2 (hs' φ) (hR.relate φ hf1) h⟩


/-- A region that draws its order: the first n operations one after the other, each in whatever world the others may have left; then the rest. -/
theorem wp_region_x {id : Nat} {l : List Oper} {Q : Exit → Act → World → Prop} {a : Act} {w0 : World} (n : Nat) (hm : P.follows .mixedOrders = true) (hok : flowOk l.toArray n = true)
    (hs : ((l.take n).all fun o => match o.dst with | some d => decide (d < a.tmps.size) | none => false) = true)
    (h : FlowX P l.toArray w0.drew (fun a' rels => ∀ (x : SW w0.drew) (f : Tmp → Value), (∀ p ∈ rels, p.2 (f p.1) x.w) → wpList P l.toArray Q (l.drop n) (putAll a' f (rels.map (·.1))) x.w) [] (l.take n) a) :
    (Code.region id l.toArray true).wp P Q a w0 := by
  refine wp_region_flow n hm hok ?_ (flowGo_of_x ?_ (l.take n) [] [] a hs (fun _ hp => (by cases hp)) ⟨rfl, rfl, fun A W ts _ h2 t ht _ => h2.2 t ht (by simp), fun _ _ _ _ _ p hp => (by cases hp), fun p hp => (by cases hp)⟩ h)
  · rw [List.all_eq_true] at hs ⊢
    intro o ho
    have := hs o ho
    split at this
    · rename_i d hd; rw [hd]; simpa using this
    · cases this
  · intro done rels a' hR hsz hE f W hW hdone
    have hev : ∀ t, t ∈ done.map (·.1) → (putAll a f (done.map (·.1))).eval (.tmp t) = f t := fun t ht => by
      rw [putAll_eval, if_pos]
      obtain ⟨p, hp, rfl⟩ := List.mem_map.1 ht
      exact ⟨ht, hsz p hp⟩
    have hH : ∀ ts, FHas done ts (putAll a f (done.map (·.1))) W := fun ts p hp _ => by
      rw [hev p.1 (List.mem_map.2 ⟨p, hp, rfl⟩)]; exact hdone p hp
    have hO : ∀ ts, FOut done ts a (putAll a f (done.map (·.1))) := fun ts => ⟨putAll_size .., fun t _ hn => by
      rw [putAll_eval, if_neg fun hh => hn hh.1]⟩
    have hA : putAll a f (done.map (·.1)) = putAll a' f (rels.map (·.1)) := by
      refine act_ext (by rw [putAll_size, putAll_size, hR.tmps]) (by rw [putAll_defers, putAll_defers, hR.defers]) fun t => ?_
      rw [putAll_eval a' f]
      by_cases ht : t ∈ rels.map (·.1)
      · obtain ⟨p, hp, rfl⟩ := List.mem_map.1 ht
        have hd := hR.sub p hp
        have hlt : p.1 < a'.tmps.size := by
          obtain ⟨q, hq, e⟩ := List.mem_map.1 hd
          rw [hR.tmps, ← e]; exact hsz q hq
        rw [hev _ hd, if_pos ⟨ht, hlt⟩]
      · rw [if_neg fun hh => ht hh.1]
        exact hR.same _ W [t] (hH _) (hO _) t (by simp) fun p hp e => ht (List.mem_map.2 ⟨p, hp, e⟩)
    rw [hA]
    refine hE ⟨W, hW⟩ f fun p hp => ?_
    have := hR.rel _ W [p.1] (hH _) (hO _) p hp (by simp)
    rwa [hev p.1 (hR.sub p hp)] at this

end
end Go.Proofs.Ytjmkoelmiehdjaa.L

namespace Go.Proofs.Ytjmkoelmiehdjaa.W
open Go.RowKit L
set_option linter.unusedVariables false
set_option linter.unusedSimpArgs false

abbrev winV (s t : Int) (b : Nat) (l : Bool) : Value := .agg #[.int .i64 s, .int .i64 t, .int .u64 (b : Int), .bool l]
def i64In (n : Int) : Prop := -9223372036854775808 ≤ n ∧ n ≤ 9223372036854775807

theorem mask_end1 (n : Int) (h : 0 ≤ n) (h2 : n < 64) : IntKind.u64.wrap (IntKind.u64.wrap (2 ^ n.toNat) - 1) = ((maskN n : Nat) : Int) := by
  have h1 : (2:Nat) ^ n.toNat < 2 ^ 64 := Nat.pow_lt_pow_right (by decide) (by omega)
  have h0 : 0 < (2:Nat) ^ n.toNat := Nat.pow_pos (by decide)
  have e : ((2:Int) ^ n.toNat) = (((2:Nat) ^ n.toNat : Nat) : Int) := by simp
  unfold maskN
  rw [if_neg (by omega), e]
  simp only [IntKind.wrap_u64]
  omega

theorem mask_any (n : Int) (w : World) (h : i64In n) :
    Calls Try.prog 28 #[.int .i64 n] w fun e w' => e = .returned (.int .u64 ((maskN n : Nat) : Int)) ∧ w = w' := by
  obtain ⟨h1, h2⟩ := h
  by_cases h3 : 64 ≤ n
  · go_enter Try.func28, Try.ntmps28
    go_wp2
    go_ret
    exact ⟨by simp [maskN, h3], rfl⟩
  · have h3' : n < 64 := by omega
    clear h3
    by_cases h4 : 0 < n
    · have H := Lib.hid (mask_end1 n (by omega) h3')
      go_enter Try.func28, Try.ntmps28
      go_wp2
      all_goals go_ret
      all_goals first | exact ⟨by rw [H.out]; rfl, rfl⟩ | (exfalso; omega)
    · have H := Lib.hid (show (0 : Int) = ((maskN n : Nat) : Int) by
        have : n.toNat = 0 := by omega
        unfold maskN; rw [if_neg (show ¬ 64 ≤ n by omega), this]; rfl)
      go_enter Try.func28, Try.ntmps28
      go_wp2
      all_goals go_ret
      all_goals refine ⟨?_, rfl⟩
      all_goals first | (rw [← H.out]; rfl) | (exfalso; omega)

theorem lose_any (s t : Int) (b : Nat) (l : Bool) (w : World) :
    Calls Try.prog 12 #[winV s t b l] w fun e w' => e = .returned (winV s (-1) 0 true) ∧ Ext w w' := by
  go_enter Try.func12, Try.ntmps12
  go_wp2
  go_returns
  exact ⟨rfl, by repeat (first | exact Mods.refl _ _ | refine Mods.alloc ?_ _ | refine Mods.drew ?_ | refine Mods.setCell ?_ (by simp) _)⟩

theorem bits_andNot (b : Nat) (m : Int) (hb : b < 2 ^ 64) : bits .andNot .u64 (b : Int) ((maskN m : Nat) : Int) = ((b &&& (2 ^ 64 - 1 - maskN m) : Nat) : Int) := by
  rw [u64_andNot_nat _ _ hb (maskN_lt m)]
theorem bits_and1 (b : Nat) (hb : b < 2 ^ 64) : bits .and .u64 (b : Int) 1 = ((b % 2 : Nat) : Int) := by
  rw [show (1 : Int) = ((1 : Nat) : Int) from rfl, u64_and_nat _ _ hb (by decide), Nat.and_one_is_mod]

theorem cast_beq (a b : Nat) : (((a : Nat) : Int) == ((b : Nat) : Int)) = decide (a = b) := by
  by_cases h : a = b
  · simp [h]
  · have : ¬ ((a : Int) = (b : Int)) := by omega
    simp [h, this]

set_option maxHeartbeats 400000 in
theorem valid_mid (s t : Int) (b : Nat) (c1 c2 c3 : Bool) (w : World) (hb : b < 2 ^ 64) (g1 : 1 ≤ s) (g2 : s ≤ 64) (g3 : -1 ≤ t) (g4 : t ≤ 1099511627775)
    (hm : i64In (if t + 1 < s then t + 1 else s)) (z1 : (bits .andNot .u64 (b : Int) ((maskN (if t + 1 < s then t + 1 else s) : Nat) : Int) == 0) = c1) (z2 : (t == -1) = c2) (z3 : (bits .and .u64 (b : Int) 1 == 1) = c3) :
    Calls Try.prog 18 #[winV s t b false] w fun e w' => e = .returned (.bool (c1 && (c2 || c3))) ∧ Ext w w' := by
  have hw1 : IntKind.i64.wrap (t + 1) = t + 1 := IntWalk.i64_in _ (by omega)
  have h8 : (c1 = false) ∨ (c1 = true ∧ c2 = true) ∨ (c1 = true ∧ c2 = false) := by cases c1 <;> cases c2 <;> simp
  rcases h8 with rfl | ⟨rfl, rfl⟩ | ⟨rfl, rfl⟩
  all_goals
    go_enter Try.func18, Try.ntmps18
    go_wp2
    refine wp_region_x 22 (by kernel_rfl) (by kernel_rfl) (by kernel_rfl) ?_
    simp only [List.take_succ_cons, List.take_zero, List.drop_succ_cons, List.drop_zero]
    refine FlowX.seg [_, _, _, _, _, _, _, _] _ (by kernel_rfl) ?_
    repeat (go_big_quiet_step (fail))
    refine wpQuiet_nil ?_
    refine FlowX.call rfl Try.func28 (by kernel_rfl) (by kernel_rfl) (by kernel_rfl) (by kernel_rfl) (fun x => ext_same (mask_any (if t + 1 < s then t + 1 else s) _ hm)) (by kernel_rfl) ?_
    simp only [Act.put, List.setIfInBounds_toArray, List.set_cons_succ, List.set_cons_zero]
    refine FlowX.seg [_, _, _, _, _, _, _, _, _, _, _, _, _] _ (by kernel_rfl) ?_
    repeat (go_big_quiet_step (fail))
    refine wpQuiet_nil ?_
    refine FlowX.fin (fun x fv hfv => ?_)
    simp only [List.map_nil, List.map_cons, putAll]
    go_wp2
    all_goals (go_ret; exact ⟨by simp [z3], ((Mods.refl _ _).alloc _).drew.trans x.h⟩)

theorem validB_eq (s t : Int) (b : Nat) (hb : b < 2 ^ 64) (g1 : 1 ≤ s) (g2 : s ≤ 64) (g3 : -1 ≤ t) (g4 : t ≤ 1099511627775) :
    validB s t b false = ((bits .andNot .u64 (b : Int) ((maskN (if t + 1 < s then t + 1 else s) : Nat) : Int) == 0) && ((t == -1) || (bits .and .u64 (b : Int) 1 == 1))) := by
  rw [validB_mk s t b hb g1 g2 g3 g4, bits_andNot b _ hb, bits_and1 b hb]
  have e : min s (t + 1) = if t + 1 < s then t + 1 else s := by split <;> omega
  rw [e]
  congr 1
  · exact (cast_beq _ 0).symm
  · congr 1
    exact (cast_beq _ 1).symm

set_option maxHeartbeats 400000 in
theorem valid_any (s t : Int) (b : Nat) (l : Bool) (w : World) (hs : i64In s) (ht : i64In t) (hb : b < 2 ^ 64) :
    Calls Try.prog 18 #[winV s t b l] w fun e w' => e = .returned (.bool (validB s t b l)) ∧ Ext w w' := by
  obtain ⟨hs, hs'⟩ := hs
  obtain ⟨ht, ht'⟩ := ht
  by_cases hg : 1 ≤ s ∧ s ≤ 64 ∧ -1 ≤ t ∧ t ≤ 1099511627775
  · obtain ⟨g1, g2, g3, g4⟩ := hg
    cases l
    · rw [validB_eq s t b hb g1 g2 g3 g4]
      exact valid_mid s t b _ _ _ w hb g1 g2 g3 g4 (by unfold i64In; split <;> omega) rfl rfl rfl
    · have V := Lib.hid (show validB s t b true = (decide (b = 0) && (t == -1)) by simp only [validB, g1, g2, g3, g4]; rw [show (t == -1) = decide (t = -1) from by rw [Bool.eq_iff_iff]; simp]; simp)
      rw [V.out]
      by_cases h0 : b = 0
      · subst h0
        go_enter Try.func18, Try.ntmps18
        go_wp2
        all_goals (go_ret; refine ⟨?_, (Mods.refl _ _).alloc _⟩; simp; try omega)
      · have h0' : ((b : Int) == 0) = false := by simp [h0]
        go_enter Try.func18, Try.ntmps18
        go_wp2
        all_goals (go_ret; refine ⟨?_, (Mods.refl _ _).alloc _⟩; simp [h0]; try omega)
  · have V := Lib.hid (show validB s t b l = false by simp only [validB, hg]; simp)
    rw [V.out]
    clear V
    by_cases g1 : s < 1
    · go_enter Try.func18, Try.ntmps18
      go_wp2
      all_goals (go_ret; exact ⟨rfl, (Mods.refl _ _).alloc _⟩)
    · by_cases g2 : 64 < s
      · go_enter Try.func18, Try.ntmps18
        go_wp2
        all_goals (go_ret; exact ⟨rfl, (Mods.refl _ _).alloc _⟩)
      · by_cases g3 : t < -1
        · go_enter Try.func18, Try.ntmps18
          go_wp2
          all_goals (go_ret; exact ⟨rfl, (Mods.refl _ _).alloc _⟩)
        · have g4 : 1099511627775 < t := by omega
          clear hg
          go_enter Try.func18, Try.ntmps18
          go_wp2
          all_goals (go_ret; exact ⟨rfl, (Mods.refl _ _).alloc _⟩)
end Go.Proofs.Ytjmkoelmiehdjaa.W

namespace Go.Proofs.Ytjmkoelmiehdjaa.W
open Go.RowKit L
set_option linter.unusedVariables false
set_option linter.unusedSimpArgs false

def rightB (s t : Int) (b : Nat) (l : Bool) (n : Int) : Bool := validB s t b l && (decide (0 ≤ n) && decide (n ≤ 1099511627775))

theorem validB_bd {s t : Int} {b : Nat} {l : Bool} (h : validB s t b l = true) : 1 ≤ s ∧ s ≤ 64 ∧ -1 ≤ t ∧ t ≤ 1099511627775 := by
  simp only [validB, Bool.and_eq_true, decide_eq_true_eq] at h
  exact h.1

theorem rightB_bd {s t : Int} {b : Nat} {l : Bool} {n : Int} (h : rightB s t b l n = true) : (1 ≤ s ∧ s ≤ 64 ∧ -1 ≤ t ∧ t ≤ 1099511627775) ∧ 0 ≤ n ∧ n ≤ 1099511627775 := by
  simp only [rightB, Bool.and_eq_true, decide_eq_true_eq] at h
  exact ⟨validB_bd h.1, h.2⟩

set_option maxHeartbeats 400000 in
theorem right_any (s t : Int) (b : Nat) (l : Bool) (n : Int) (w : World) (hs : i64In s) (ht : i64In t) (hb : b < 2 ^ 64) (hn : i64In n) :
    Calls Try.prog 27 #[winV s t b l, .int .i64 n] w fun e w' => e = .returned (.bool (rightB s t b l n)) ∧ Ext w w' := by
  obtain ⟨hn, hn'⟩ := hn
  have hv := fun w => valid_any s t b l w hs ht hb
  unfold rightB
  generalize validB s t b l = v at *
  have H := Lib.hid hv
  clear hv
  cases v
  all_goals
    go_enter Try.func27, Try.ntmps27
    go_wp2_with fail
    refine (H.out _).mono ?_
    rintro e w' ⟨rfl, hE⟩
    go_wp2
    all_goals (go_ret; refine ⟨?_, ((Mods.refl _ _).alloc _).trans hE⟩)
    all_goals first | rfl | (simp; done) | (simp; omega)

/-- Why a number is not accepted. -/
def checkE (s t : Int) (b : Nat) (l : Bool) (n : Int) : Int :=
  if rightB s t b l n = false then 1 else if l then 34 else if n ≤ t - s ∨ (n ≤ t ∧ b.testBit (t - n).toNat = true) then 33 else 0

theorem shr_bit (b k : Nat) (hb : b < 2 ^ 64) : (bits .and .u64 ((b : Int) / 2 ^ k) 1 == 1) = b.testBit k := by
  have e : ((b : Int) / 2 ^ k) = ((b / 2 ^ k : Nat) : Int) := by simp
  have h : b / 2 ^ k < 2 ^ 64 := Nat.lt_of_le_of_lt (Nat.div_le_self _ _) hb
  rw [e, bits_and1 _ h, Nat.testBit_eq_decide_div_mod_eq]
  exact cast_beq _ 1

set_option maxHeartbeats 400000 in
theorem check_any (s t : Int) (b : Nat) (l : Bool) (n : Int) (w : World) (hs : i64In s) (ht : i64In t) (hb : b < 2 ^ 64) (hn : i64In n) :
    Calls Try.prog 16 #[winV s t b l, .int .i64 n] w fun e w' => e = .returned (.int .i64 (checkE s t b l n)) ∧ Ext w w' := by
  have hq := fun w => right_any s t b l n w hs ht hb hn
  by_cases hr : rightB s t b l n = true
  · obtain ⟨⟨g1, g2, g3, g4⟩, g5, g6⟩ := rightB_bd hr
    rw [hr] at hq
    have H := Lib.hid hq
    clear hq
    cases l
    · have hsh := fun k => shr_bit b k hb
      have V := Lib.hid (show checkE s t b false n = if n ≤ t - s ∨ (n ≤ t ∧ b.testBit (t - n).toNat = true) then 33 else 0 by simp [checkE, hr])
      clear hr hn hs ht
      rw [V.out]
      clear V
      by_cases c1 : n ≤ t - s
      · go_enter Try.func16, Try.ntmps16
        go_wp2_with fail
        refine (H.out _).mono ?_
        rintro e w' ⟨rfl, hE⟩
        obtain ⟨hc1, hc2, hc3⟩ := hE.cells
        go_wp2
        all_goals (go_ret; refine ⟨?_, ((Mods.refl _ _).alloc _).trans hE⟩; simp [c1])
      · by_cases c2 : n ≤ t
        · generalize hx : b.testBit (t - n).toNat = xb
          have hz := (hsh (t - n).toNat).trans hx
          clear hsh
          have HX := Lib.hid hx
          clear hx
          cases xb
          all_goals
            go_enter Try.func16, Try.ntmps16
            go_wp2_with fail
            refine (H.out _).mono ?_
            rintro e w' ⟨rfl, hE⟩
            obtain ⟨hc1, hc2, hc3⟩ := hE.cells
            go_wp2
            all_goals (go_ret; refine ⟨?_, ((Mods.refl _ _).alloc _).trans hE⟩; simp [c1, c2])
        · clear hsh
          go_enter Try.func16, Try.ntmps16
          go_wp2_with fail
          refine (H.out _).mono ?_
          rintro e w' ⟨rfl, hE⟩
          obtain ⟨hc1, hc2, hc3⟩ := hE.cells
          go_wp2
          all_goals (go_ret; refine ⟨?_, ((Mods.refl _ _).alloc _).trans hE⟩; simp [c1, c2])
    · have V := Lib.hid (show checkE s t b true n = 34 by simp [checkE, hr])
      clear hr
      rw [V.out]
      go_enter Try.func16, Try.ntmps16
      go_wp2_with fail
      refine (H.out _).mono ?_
      rintro e w' ⟨rfl, hE⟩
      obtain ⟨hc1, hc2, hc3⟩ := hE.cells
      go_wp2
      go_ret
      exact ⟨rfl, ((Mods.refl _ _).alloc _).trans hE⟩
  · have hr' : rightB s t b l n = false := by simpa using hr
    rw [hr'] at hq
    have H := Lib.hid hq
    have V := Lib.hid (show checkE s t b l n = 1 by simp [checkE, hr'])
    clear hq hr hr'
    rw [V.out]
    go_enter Try.func16, Try.ntmps16
    go_wp2_with fail
    refine (H.out _).mono ?_
    rintro e w' ⟨rfl, hE⟩
    go_wp2
    go_ret
    exact ⟨rfl, ((Mods.refl _ _).alloc _).trans hE⟩

theorem new_any (n : Int) (w : World) : Calls Try.prog 15 #[.int .i64 n] w fun e w' =>
    e = .returned (.tuple #[if 1 ≤ n ∧ n ≤ 64 then winV n (-1) 0 false else winV 0 0 0 false, .int .i64 (if 1 ≤ n ∧ n ≤ 64 then 0 else 1)]) ∧ Ext w w' := by
  by_cases h1 : 1 ≤ n
  · by_cases h2 : n ≤ 64
    · rw [if_pos ⟨h1, h2⟩, if_pos ⟨h1, h2⟩]
      go_enter Try.func15, Try.ntmps15
      go_wp2
      all_goals (go_returns; refine ⟨rfl, ?_⟩)
      all_goals (repeat (first | exact Mods.refl _ _ | refine Mods.alloc ?_ _ | refine Mods.setCell ?_ (by simp) _))
    · rw [if_neg (fun h => h2 h.2), if_neg (fun h => h2 h.2)]
      go_enter Try.func15, Try.ntmps15
      go_wp2
      all_goals (go_returns; refine ⟨rfl, ?_⟩)
      all_goals (repeat (first | exact Mods.refl _ _ | refine Mods.alloc ?_ _ | refine Mods.setCell ?_ (by simp) _))
  · rw [if_neg (fun h => h1 h.1), if_neg (fun h => h1 h.1)]
    go_enter Try.func15, Try.ntmps15
    go_wp2
    all_goals (go_returns; refine ⟨rfl, ?_⟩)
    all_goals (repeat (first | exact Mods.refl _ _ | refine Mods.alloc ?_ _ | refine Mods.setCell ?_ (by simp) _))
end Go.Proofs.Ytjmkoelmiehdjaa.W

namespace Go.Proofs.Ytjmkoelmiehdjaa.W
open Go.RowKit L
set_option linter.unusedVariables false
set_option linter.unusedSimpArgs false

theorem checkE_zero {s t : Int} {b : Nat} {l : Bool} {n : Int} (h : checkE s t b l n = 0) :
    (1 ≤ s ∧ s ≤ 64 ∧ -1 ≤ t ∧ t ≤ 1099511627775) ∧ 0 ≤ n ∧ n ≤ 1099511627775 ∧ l = false ∧ ¬ n ≤ t - s := by
  unfold checkE at h
  split at h
  · cases h
  · rename_i hr
    have hr' : rightB s t b l n = true := by simpa using hr
    obtain ⟨h1, h2, h3⟩ := rightB_bd hr'
    split at h
    · cases h
    · rename_i hl
      split at h
      · cases h
      · rename_i hh
        exact ⟨h1, h2, h3, by simpa using hl, fun e => hh (.inl e)⟩

set_option maxHeartbeats 400000 in
theorem accept_no (s t : Int) (b : Nat) (l : Bool) (n : Int) (w : World) (hs : i64In s) (ht : i64In t) (hb : b < 2 ^ 64) (hn : i64In n) (h0 : checkE s t b l n ≠ 0) :
    Calls Try.prog 17 #[winV s t b l, .int .i64 n] w fun e w' => e = .returned (.tuple #[winV 0 0 0 false, .int .i64 (checkE s t b l n)]) ∧ Ext w w' := by
  have hq := fun w => check_any s t b l n w hs ht hb hn
  generalize checkE s t b l n = c at *
  have H := Lib.hid hq
  have hc0 : (c == 0) = false := by simpa using h0
  clear hq h0
  go_enter Try.func17, Try.ntmps17
  go_wp2_with fail
  refine (H.out _).mono ?_
  rintro e w' ⟨rfl, hE⟩
  obtain ⟨hc1, hc2, hc3⟩ := hE.cells
  have hz : w.heap.size + 1 < w'.heap.size := by simp at hc3; omega
  have hz0 : w.heap.size < w'.heap.size := by omega
  go_wp2
  refine bodyPost_ret (v := .tuple #[winV 0 0 0 false, .int .i64 c]) (by simp [results, Try.results17, go_sem, hc1, hz]) rfl ?_
  refine ⟨rfl, ?_⟩
  repeat (first | (with_reducible exact Mods.refl _ _) | (with_reducible refine Mods.alloc ?_ _) | (with_reducible refine Mods.drew ?_) | (with_reducible refine Mods.setCell ?_ (fun hlt => (by first | (simp at hlt; done) | (simp at hlt; omega) | (show _ ≤ _; omega) | (show _ < _; omega))) _) | (with_reducible refine Mods.trans ?_ hE))

def accGt (s : Int) (b k : Nat) : Nat := ((b * 2 ^ k % 2 ^ 64) &&& maskN s) ||| 1
def accLe (b k : Nat) : Nat := b ||| 2 ^ k

theorem accGt_cast (s : Int) (b k : Nat) : bits .or .u64 (bits .and .u64 (IntKind.u64.wrap ((b : Int) * 2 ^ k)) ((maskN s : Nat) : Int)) 1 = ((accGt s b k : Nat) : Int) := by
  have e : IntKind.u64.wrap ((b : Int) * 2 ^ k) = ((b * 2 ^ k % 2 ^ 64 : Nat) : Int) := by
    rw [IntKind.wrap_u64]; simp
  have h : b * 2 ^ k % 2 ^ 64 < 2 ^ 64 := Nat.mod_lt _ (by decide)
  rw [e, u64_and_nat _ _ h (maskN_lt s), show (1 : Int) = ((1 : Nat) : Int) from rfl, u64_or_nat _ _ (Nat.lt_of_le_of_lt Nat.and_le_left h) (by decide)]
  rfl

theorem accGt_big (s : Int) (b k : Nat) (hk : 64 ≤ k) : accGt s b k = 1 := by
  unfold accGt
  have : b * 2 ^ k % 2 ^ 64 = 0 := by
    obtain ⟨j, rfl⟩ := Nat.exists_eq_add_of_le hk
    rw [Nat.pow_add, ← Nat.mul_assoc, Nat.mul_comm b, Nat.mul_assoc]
    exact Nat.mul_mod_right _ _
  rw [this]; simp

theorem accLe_cast (b k : Nat) (hb : b < 2 ^ 64) (hk : k < 64) : bits .or .u64 (b : Int) (IntKind.u64.wrap (2 ^ k)) = ((accLe b k : Nat) : Int) := by
  have h : (2 : Nat) ^ k < 2 ^ 64 := Nat.pow_lt_pow_right (by decide) hk
  have e : IntKind.u64.wrap (2 ^ k) = ((2 ^ k : Nat) : Int) := by
    rw [IntKind.wrap_u64]
    have : ((2 : Int) ^ k) = ((2 ^ k : Nat) : Int) := by simp
    rw [this]; exact Int.emod_eq_of_lt (Int.natCast_nonneg _) (by have := Int.ofNat_lt.2 h; exact this)
  rw [e, u64_or_nat _ _ hb h]; rfl

theorem and_zero (m : Nat) (hm : m < 2 ^ 64) : bits .and .u64 0 (m : Int) = 0 := by
  have := u64_and_nat 0 m (by decide) hm
  simpa using this
theorem or_zero : bits .or .u64 0 1 = 1 := by
  have := u64_or_nat 0 1 (by decide) (by decide)
  simpa using this

set_option maxHeartbeats 800000 in
theorem accept_gt1 (s t : Int) (b : Nat) (n : Int) (w : World) (hs : i64In s) (ht : i64In t) (hb : b < 2 ^ 64) (hn : i64In n) (h0 : checkE s t b false n = 0) (hgt : t < n) (hk : n - t < 64) :
    Calls Try.prog 17 #[winV s t b false, .int .i64 n] w fun e w' => e = .returned (.tuple #[winV s n (accGt s b (n - t).toNat) false, .int .i64 0]) ∧ Ext w w' := by
  obtain ⟨⟨g1, g2, g3, g4⟩, g5, g6, -, g7⟩ := checkE_zero h0
  have hq := fun w => check_any s t b false n w hs ht hb hn
  rw [h0] at hq
  have H := Lib.hid hq
  have hss := hs
  clear hq h0 hs ht hn
  have e1 : IntKind.i64.wrap (n - t) = n - t := IntWalk.i64_in _ (by omega)
  have A := Lib.hid (accGt_cast s b (n - t).toNat)
  go_enter Try.func17, Try.ntmps17
  go_wp2_with fail
  refine (H.out _).mono ?_
  rintro e w' ⟨rfl, hE⟩
  obtain ⟨hc1, hc2, hc3⟩ := hE.cells
  have hz : w.heap.size + 1 < w'.heap.size := by simp at hc3; omega
  have hz0 : w.heap.size < w'.heap.size := by omega
  go_wp2
  refine wp_region_x 12 (by kernel_rfl) (by kernel_rfl) (by kernel_rfl) ?_
  simp only [List.take_succ_cons, List.take_zero, List.drop_succ_cons, List.drop_zero]
  refine FlowX.seg [_, _, _, _, _, _, _, _, _, _] _ (by kernel_rfl) ?_
  repeat (go_big_quiet_step (fail))
  refine wpQuiet_nil ?_
  refine FlowX.call rfl Try.func28 (by kernel_rfl) (by kernel_rfl) (by kernel_rfl) (by kernel_rfl) (fun x => ext_same (mask_any s _ hss)) (by kernel_rfl) ?_
  simp only [Act.put, List.setIfInBounds_toArray, List.set_cons_succ, List.set_cons_zero]
  refine FlowX.seg [_] _ (by kernel_rfl) ?_
  repeat (go_big_quiet_step (fail))
  refine wpQuiet_nil ?_
  refine FlowX.fin (fun x fv hfv => ?_)
  simp only [List.map_nil, List.map_cons, putAll]
  have k0 : World.cell? x.w ⟨w.heap.size, 0, none⟩ = some (.int .i64 s) := by simp [go_sem, hc1, hc2, hz0]
  have k1 : World.cell? x.w ⟨w.heap.size, 1, none⟩ = some (.int .i64 t) := by simp [go_sem, hc1, hc2, hz0]
  have k2 : World.cell? x.w ⟨w.heap.size, 2, none⟩ = some (.int .u64 (b : Int)) := by simp [go_sem, hc1, hc2, hz0]
  have k3 : World.cell? x.w ⟨w.heap.size, 3, none⟩ = some (.bool false) := by simp [go_sem, hc1, hc2, hz0]
  have kf : ∀ o, World.frozen? x.w ⟨w.heap.size, o, none⟩ = false := fun o => by simp [go_sem, hc1, hc2, hz0]
  have r0 : World.cell? x.w ⟨w.heap.size + 1, 0, none⟩ = some (.int .i64 0) := by simp [go_sem, hc1, hc2, hz]
  have r1 : World.cell? x.w ⟨w.heap.size + 1, 1, none⟩ = some (.int .i64 0) := by simp [go_sem, hc1, hc2, hz]
  have r2 : World.cell? x.w ⟨w.heap.size + 1, 2, none⟩ = some (.int .u64 0) := by simp [go_sem, hc1, hc2, hz]
  have r3 : World.cell? x.w ⟨w.heap.size + 1, 3, none⟩ = some (.bool false) := by simp [go_sem, hc1, hc2, hz]
  have rf : ∀ o, World.frozen? x.w ⟨w.heap.size + 1, o, none⟩ = false := fun o => by simp [go_sem, hc1, hc2, hz]
  clear hc1 hc2 hc3
  go_wp2
  rw [A.out]
  refine bodyPost_ret (v := .tuple #[winV s n (accGt s b (n - t).toNat) false, .int .i64 0]) (by simp [results, Try.results17, go_sem, r0, r1, r2, r3]) rfl ?_
  refine ⟨rfl, ?_⟩
  repeat (first | (with_reducible exact Mods.refl _ _) | (with_reducible refine Mods.alloc ?_ _) | (with_reducible refine Mods.drew ?_) | (with_reducible refine Mods.setCell ?_ (fun hlt => (by first | (simp at hlt; done) | (simp at hlt; omega) | (show _ ≤ _; omega) | (show _ < _; omega))) _) | (with_reducible refine Mods.trans ?_ x.h) | (with_reducible refine Mods.trans ?_ hE))

set_option maxHeartbeats 800000 in
theorem accept_gt2 (s t : Int) (b : Nat) (n : Int) (w : World) (hs : i64In s) (ht : i64In t) (hb : b < 2 ^ 64) (hn : i64In n) (h0 : checkE s t b false n = 0) (hgt : t < n) (hk : 64 ≤ n - t) :
    Calls Try.prog 17 #[winV s t b false, .int .i64 n] w fun e w' => e = .returned (.tuple #[winV s n (accGt s b (n - t).toNat) false, .int .i64 0]) ∧ Ext w w' := by
  obtain ⟨⟨g1, g2, g3, g4⟩, g5, g6, -, g7⟩ := checkE_zero h0
  have hq := fun w => check_any s t b false n w hs ht hb hn
  rw [h0] at hq
  have H := Lib.hid hq
  have hss := hs
  clear hq h0 hs ht hn
  have e1 : IntKind.i64.wrap (n - t) = n - t := IntWalk.i64_in _ (by omega)
  have A := Lib.hid (accGt_big s b (n - t).toNat (by omega))
  have M := Lib.hid (and_zero (maskN s) (maskN_lt s))
  have O := Lib.hid or_zero
  have hsb := shl_big_u64 (b : Int) (n - t) .u64 hk
  rw [A.out]
  go_enter Try.func17, Try.ntmps17
  go_wp2_with fail
  refine (H.out _).mono ?_
  rintro e w' ⟨rfl, hE⟩
  obtain ⟨hc1, hc2, hc3⟩ := hE.cells
  have hz : w.heap.size + 1 < w'.heap.size := by simp at hc3; omega
  have hz0 : w.heap.size < w'.heap.size := by omega
  go_wp2
  refine wp_region_x 12 (by kernel_rfl) (by kernel_rfl) (by kernel_rfl) ?_
  simp only [List.take_succ_cons, List.take_zero, List.drop_succ_cons, List.drop_zero]
  refine FlowX.seg [_, _, _, _, _, _, _, _, _, _] _ (by kernel_rfl) ?_
  repeat (go_big_quiet_step (fail))
  refine wpQuiet_nil ?_
  refine FlowX.call rfl Try.func28 (by kernel_rfl) (by kernel_rfl) (by kernel_rfl) (by kernel_rfl) (fun x => ext_same (mask_any s _ hss)) (by kernel_rfl) ?_
  simp only [Act.put, List.setIfInBounds_toArray, List.set_cons_succ, List.set_cons_zero]
  refine FlowX.seg [_] _ (by kernel_rfl) ?_
  repeat (go_big_quiet_step (fail))
  refine wpQuiet_nil ?_
  refine FlowX.fin (fun x fv hfv => ?_)
  simp only [List.map_nil, List.map_cons, putAll]
  have k0 : World.cell? x.w ⟨w.heap.size, 0, none⟩ = some (.int .i64 s) := by simp [go_sem, hc1, hc2, hz0]
  have k1 : World.cell? x.w ⟨w.heap.size, 1, none⟩ = some (.int .i64 t) := by simp [go_sem, hc1, hc2, hz0]
  have k2 : World.cell? x.w ⟨w.heap.size, 2, none⟩ = some (.int .u64 (b : Int)) := by simp [go_sem, hc1, hc2, hz0]
  have k3 : World.cell? x.w ⟨w.heap.size, 3, none⟩ = some (.bool false) := by simp [go_sem, hc1, hc2, hz0]
  have kf : ∀ o, World.frozen? x.w ⟨w.heap.size, o, none⟩ = false := fun o => by simp [go_sem, hc1, hc2, hz0]
  have r0 : World.cell? x.w ⟨w.heap.size + 1, 0, none⟩ = some (.int .i64 0) := by simp [go_sem, hc1, hc2, hz]
  have r1 : World.cell? x.w ⟨w.heap.size + 1, 1, none⟩ = some (.int .i64 0) := by simp [go_sem, hc1, hc2, hz]
  have r2 : World.cell? x.w ⟨w.heap.size + 1, 2, none⟩ = some (.int .u64 0) := by simp [go_sem, hc1, hc2, hz]
  have r3 : World.cell? x.w ⟨w.heap.size + 1, 3, none⟩ = some (.bool false) := by simp [go_sem, hc1, hc2, hz]
  have rf : ∀ o, World.frozen? x.w ⟨w.heap.size + 1, o, none⟩ = false := fun o => by simp [go_sem, hc1, hc2, hz]
  clear hc1 hc2 hc3
  go_wp2
  rw [M.out, O.out]
  refine bodyPost_ret (v := .tuple #[winV s n 1 false, .int .i64 0]) (by simp [results, Try.results17, go_sem, r0, r1, r2, r3]) rfl ?_
  refine ⟨rfl, ?_⟩
  repeat (first | (with_reducible exact Mods.refl _ _) | (with_reducible refine Mods.alloc ?_ _) | (with_reducible refine Mods.drew ?_) | (with_reducible refine Mods.setCell ?_ (fun hlt => (by first | (simp at hlt; done) | (simp at hlt; omega) | (show _ ≤ _; omega) | (show _ < _; omega))) _) | (with_reducible refine Mods.trans ?_ x.h) | (with_reducible refine Mods.trans ?_ hE))
set_option maxHeartbeats 800000 in
theorem accept_le (s t : Int) (b : Nat) (n : Int) (w : World) (hs : i64In s) (ht : i64In t) (hb : b < 2 ^ 64) (hn : i64In n) (h0 : checkE s t b false n = 0) (hle : n ≤ t) :
    Calls Try.prog 17 #[winV s t b false, .int .i64 n] w fun e w' => e = .returned (.tuple #[winV s t (accLe b (t - n).toNat) false, .int .i64 0]) ∧ Ext w w' := by
  obtain ⟨⟨g1, g2, g3, g4⟩, g5, g6, -, g7⟩ := checkE_zero h0
  have hq := fun w => check_any s t b false n w hs ht hb hn
  rw [h0] at hq
  have H := Lib.hid hq
  clear hq h0 hs ht hn
  have A := Lib.hid (accLe_cast b (t - n).toNat hb (by omega))
  go_enter Try.func17, Try.ntmps17
  go_wp2_with fail
  refine (H.out _).mono ?_
  rintro e w' ⟨rfl, hE⟩
  obtain ⟨hc1, hc2, hc3⟩ := hE.cells
  have hz : w.heap.size + 1 < w'.heap.size := by simp at hc3; omega
  have hz0 : w.heap.size < w'.heap.size := by omega
  have k0 : World.cell? w' ⟨w.heap.size, 0, none⟩ = some (.int .i64 s) := by simp [go_sem, hc1, hc2, hz0]
  have k1 : World.cell? w' ⟨w.heap.size, 1, none⟩ = some (.int .i64 t) := by simp [go_sem, hc1, hc2, hz0]
  have k2 : World.cell? w' ⟨w.heap.size, 2, none⟩ = some (.int .u64 (b : Int)) := by simp [go_sem, hc1, hc2, hz0]
  have k3 : World.cell? w' ⟨w.heap.size, 3, none⟩ = some (.bool false) := by simp [go_sem, hc1, hc2, hz0]
  have kf : ∀ o, World.frozen? w' ⟨w.heap.size, o, none⟩ = false := fun o => by simp [go_sem, hc1, hc2, hz0]
  have r0 : World.cell? w' ⟨w.heap.size + 1, 0, none⟩ = some (.int .i64 0) := by simp [go_sem, hc1, hc2, hz]
  have r1 : World.cell? w' ⟨w.heap.size + 1, 1, none⟩ = some (.int .i64 0) := by simp [go_sem, hc1, hc2, hz]
  have r2 : World.cell? w' ⟨w.heap.size + 1, 2, none⟩ = some (.int .u64 0) := by simp [go_sem, hc1, hc2, hz]
  have r3 : World.cell? w' ⟨w.heap.size + 1, 3, none⟩ = some (.bool false) := by simp [go_sem, hc1, hc2, hz]
  have rf : ∀ o, World.frozen? w' ⟨w.heap.size + 1, o, none⟩ = false := fun o => by simp [go_sem, hc1, hc2, hz]
  clear hc1 hc2 hc3
  go_wp2
  rw [A.out]
  refine bodyPost_ret (v := .tuple #[winV s t (accLe b (t - n).toNat) false, .int .i64 0]) (by simp [results, Try.results17, go_sem, r0, r1, r2, r3]) rfl ?_
  refine ⟨rfl, ?_⟩
  repeat (first | (with_reducible exact Mods.refl _ _) | (with_reducible refine Mods.alloc ?_ _) | (with_reducible refine Mods.drew ?_) | (with_reducible refine Mods.setCell ?_ (fun hlt => (by first | (simp at hlt; done) | (simp at hlt; omega) | (show _ ≤ _; omega) | (show _ < _; omega))) _) | (with_reducible refine Mods.trans ?_ hE))
end Go.Proofs.Ytjmkoelmiehdjaa.W

namespace Go.Proofs.Ytjmkoelmiehdjaa.W
open Go.RowKit L
set_option linter.unusedVariables false
set_option linter.unusedSimpArgs false

/-- The window after a number. -/
def accT (t n : Int) : Int := if t < n then n else t
def accB (s t : Int) (b : Nat) (n : Int) : Nat := if t < n then accGt s b (n - t).toNat else accLe b (t - n).toNat

def accV (s t : Int) (b : Nat) (l : Bool) (n : Int) : Value :=
  if checkE s t b l n = 0 then .tuple #[winV s (accT t n) (accB s t b n) false, .int .i64 0] else .tuple #[winV 0 0 0 false, .int .i64 (checkE s t b l n)]

theorem accept_any (s t : Int) (b : Nat) (l : Bool) (n : Int) (w : World) (hs : i64In s) (ht : i64In t) (hb : b < 2 ^ 64) (hn : i64In n) :
    Calls Try.prog 17 #[winV s t b l, .int .i64 n] w fun e w' => e = .returned (accV s t b l n) ∧ Ext w w' := by
  unfold accV
  by_cases h0 : checkE s t b l n = 0
  · obtain ⟨-, -, -, rfl, -⟩ := checkE_zero h0
    rw [if_pos h0]
    unfold accT accB
    by_cases hgt : t < n
    · rw [if_pos hgt, if_pos hgt]
      by_cases hk : n - t < 64
      · exact accept_gt1 s t b n w hs ht hb hn h0 hgt hk
      · exact accept_gt2 s t b n w hs ht hb hn h0 hgt (by omega)
    · rw [if_neg hgt, if_neg hgt]
      exact accept_le s t b n w hs ht hb hn h0 (by omega)
  · rw [if_neg h0]
    exact accept_no s t b l n w hs ht hb hn h0

def recE (s t : Int) (b : Nat) (l : Bool) (n : Int) : Int := if rightB s t b l n = false then 1 else if l = false then 15 else 0
def recV (s t : Int) (b : Nat) (l : Bool) (n : Int) : Value :=
  if recE s t b l n = 0 then .tuple #[winV s n (maskN (if s < n + 1 then s else n + 1)) false, .int .i64 0] else .tuple #[winV 0 0 0 false, .int .i64 (recE s t b l n)]

set_option maxHeartbeats 800000 in
theorem recover_any (s t : Int) (b : Nat) (l : Bool) (n : Int) (w : World) (hs : i64In s) (ht : i64In t) (hb : b < 2 ^ 64) (hn : i64In n) :
    Calls Try.prog 10 #[winV s t b l, .int .i64 n] w fun e w' => e = .returned (recV s t b l n) ∧ Ext w w' := by
  have hq := fun w => right_any s t b l n w hs ht hb hn
  by_cases hr : rightB s t b l n = true
  · obtain ⟨⟨g1, g2, g3, g4⟩, g5, g6⟩ := rightB_bd hr
    rw [hr] at hq
    have H := Lib.hid hq
    cases l
    · have V := Lib.hid (show recV s t b false n = .tuple #[winV 0 0 0 false, .int .i64 15] by simp [recV, recE, hr])
      clear hr hq hs ht hn
      rw [V.out]
      go_enter Try.func10, Try.ntmps10
      go_wp2_with fail
      refine (H.out _).mono ?_
      rintro e w' ⟨rfl, hE⟩
      obtain ⟨hc1, hc2, hc3⟩ := hE.cells
      have hz : w.heap.size + 1 < w'.heap.size := by simp at hc3; omega
      have hz0 : w.heap.size < w'.heap.size := by omega
      have k0 : World.cell? w' ⟨w.heap.size, 0, none⟩ = some (.int .i64 s) := by simp [go_sem, hc1, hc2, hz0]
      have k1 : World.cell? w' ⟨w.heap.size, 1, none⟩ = some (.int .i64 t) := by simp [go_sem, hc1, hc2, hz0]
      have k2 : World.cell? w' ⟨w.heap.size, 2, none⟩ = some (.int .u64 (b : Int)) := by simp [go_sem, hc1, hc2, hz0]
      have k3 : World.cell? w' ⟨w.heap.size, 3, none⟩ = some (.bool false) := by simp [go_sem, hc1, hc2, hz0]
      have kf : ∀ o, World.frozen? w' ⟨w.heap.size, o, none⟩ = false := fun o => by simp [go_sem, hc1, hc2, hz0]
      have r0 : World.cell? w' ⟨w.heap.size + 1, 0, none⟩ = some (.int .i64 0) := by simp [go_sem, hc1, hc2, hz]
      have r1 : World.cell? w' ⟨w.heap.size + 1, 1, none⟩ = some (.int .i64 0) := by simp [go_sem, hc1, hc2, hz]
      have r2 : World.cell? w' ⟨w.heap.size + 1, 2, none⟩ = some (.int .u64 0) := by simp [go_sem, hc1, hc2, hz]
      have r3 : World.cell? w' ⟨w.heap.size + 1, 3, none⟩ = some (.bool false) := by simp [go_sem, hc1, hc2, hz]
      have rf : ∀ o, World.frozen? w' ⟨w.heap.size + 1, o, none⟩ = false := fun o => by simp [go_sem, hc1, hc2, hz]
      clear hc1 hc2 hc3
      go_wp2
      refine bodyPost_ret (v := .tuple #[winV 0 0 0 false, .int .i64 15]) (by simp [results, Try.results10, go_sem, r0, r1, r2, r3]) rfl ?_
      refine ⟨rfl, ?_⟩
      repeat (first | (with_reducible exact Mods.refl _ _) | (with_reducible refine Mods.alloc ?_ _) | (with_reducible refine Mods.drew ?_) | (with_reducible refine Mods.setCell ?_ (fun hlt => (by first | (simp at hlt; done) | (simp at hlt; omega) | (show _ ≤ _; omega) | (show _ < _; omega))) _) | (with_reducible refine Mods.trans ?_ hE))
    · have hw1 : IntKind.i64.wrap (n + 1) = n + 1 := IntWalk.i64_in _ (by omega)
      by_cases hlt : s < n + 1
      · have V := Lib.hid (show recV s t b true n = .tuple #[winV s n (maskN s) false, .int .i64 0] by simp [recV, recE, hr, hlt])
        have hm : i64In s := by unfold i64In; omega
        clear hr hq hs ht hn
        rw [V.out]
        go_enter Try.func10, Try.ntmps10
        go_wp2_with fail
        refine (H.out _).mono ?_
        rintro e w' ⟨rfl, hE⟩
        obtain ⟨hc1, hc2, hc3⟩ := hE.cells
        have hz : w.heap.size + 1 < w'.heap.size := by simp at hc3; omega
        have hz0 : w.heap.size < w'.heap.size := by omega
        have k0 : World.cell? w' ⟨w.heap.size, 0, none⟩ = some (.int .i64 s) := by simp [go_sem, hc1, hc2, hz0]
        have k1 : World.cell? w' ⟨w.heap.size, 1, none⟩ = some (.int .i64 t) := by simp [go_sem, hc1, hc2, hz0]
        have k2 : World.cell? w' ⟨w.heap.size, 2, none⟩ = some (.int .u64 (b : Int)) := by simp [go_sem, hc1, hc2, hz0]
        have k3 : World.cell? w' ⟨w.heap.size, 3, none⟩ = some (.bool true) := by simp [go_sem, hc1, hc2, hz0]
        have kf : ∀ o, World.frozen? w' ⟨w.heap.size, o, none⟩ = false := fun o => by simp [go_sem, hc1, hc2, hz0]
        have r0 : World.cell? w' ⟨w.heap.size + 1, 0, none⟩ = some (.int .i64 0) := by simp [go_sem, hc1, hc2, hz]
        have r1 : World.cell? w' ⟨w.heap.size + 1, 1, none⟩ = some (.int .i64 0) := by simp [go_sem, hc1, hc2, hz]
        have r2 : World.cell? w' ⟨w.heap.size + 1, 2, none⟩ = some (.int .u64 0) := by simp [go_sem, hc1, hc2, hz]
        have r3 : World.cell? w' ⟨w.heap.size + 1, 3, none⟩ = some (.bool false) := by simp [go_sem, hc1, hc2, hz]
        have rf : ∀ o, World.frozen? w' ⟨w.heap.size + 1, o, none⟩ = false := fun o => by simp [go_sem, hc1, hc2, hz]
        clear hc1 hc2 hc3
        go_wp2
        refine wp_region_x 10 (by kernel_rfl) (by kernel_rfl) (by kernel_rfl) ?_
        simp only [List.take_succ_cons, List.take_zero, List.drop_succ_cons, List.drop_zero]
        refine FlowX.seg [_, _, _, _, _, _, _, _] _ (by kernel_rfl) ?_
        repeat (go_big_quiet_step (fail))
        refine wpQuiet_nil ?_
        refine FlowX.call rfl Try.func28 (by kernel_rfl) (by kernel_rfl) (by kernel_rfl) (by kernel_rfl) (fun x => ext_same (mask_any s _ hm)) (by kernel_rfl) ?_
        simp only [Act.put, List.setIfInBounds_toArray, List.set_cons_succ, List.set_cons_zero]
        refine FlowX.seg [_] _ (by kernel_rfl) ?_
        repeat (go_big_quiet_step (fail))
        refine wpQuiet_nil ?_
        refine FlowX.fin (fun x fv hfv => ?_)
        simp only [List.map_nil, List.map_cons, putAll]
        have k'0 : World.cell? x.w ⟨w.heap.size, 0, none⟩ = some (.int .i64 s) := by simp [go_sem, k0, k1, k2, k3, kf, hz0]
        have k'1 : World.cell? x.w ⟨w.heap.size, 1, none⟩ = some (.int .i64 t) := by simp [go_sem, k0, k1, k2, k3, kf, hz0]
        have k'2 : World.cell? x.w ⟨w.heap.size, 2, none⟩ = some (.int .u64 (b : Int)) := by simp [go_sem, k0, k1, k2, k3, kf, hz0]
        have k'3 : World.cell? x.w ⟨w.heap.size, 3, none⟩ = some (.bool true) := by simp [go_sem, k0, k1, k2, k3, kf, hz0]
        have k'f : ∀ o, World.frozen? x.w ⟨w.heap.size, o, none⟩ = false := fun o => by simp [go_sem, k0, k1, k2, k3, kf, hz0]
        have r'0 : World.cell? x.w ⟨w.heap.size + 1, 0, none⟩ = some (.int .i64 0) := by simp [go_sem, r0, r1, r2, r3, rf, hz]
        have r'1 : World.cell? x.w ⟨w.heap.size + 1, 1, none⟩ = some (.int .i64 0) := by simp [go_sem, r0, r1, r2, r3, rf, hz]
        have r'2 : World.cell? x.w ⟨w.heap.size + 1, 2, none⟩ = some (.int .u64 0) := by simp [go_sem, r0, r1, r2, r3, rf, hz]
        have r'3 : World.cell? x.w ⟨w.heap.size + 1, 3, none⟩ = some (.bool false) := by simp [go_sem, r0, r1, r2, r3, rf, hz]
        have r'f : ∀ o, World.frozen? x.w ⟨w.heap.size + 1, o, none⟩ = false := fun o => by simp [go_sem, r0, r1, r2, r3, rf, hz]
        clear k0 k1 k2 k3 kf r0 r1 r2 r3 rf
        go_wp2
        refine bodyPost_ret (v := .tuple #[winV s n (maskN s) false, .int .i64 0]) (by simp [results, Try.results10, go_sem, r'0, r'1, r'2, r'3]) rfl ?_
        refine ⟨rfl, ?_⟩
        repeat (first | (with_reducible exact Mods.refl _ _) | (with_reducible refine Mods.alloc ?_ _) | (with_reducible refine Mods.drew ?_) | (with_reducible refine Mods.setCell ?_ (fun hlt => (by first | (simp at hlt; done) | (simp at hlt; omega) | (show _ ≤ _; omega) | (show _ < _; omega))) _) | (with_reducible refine Mods.trans ?_ x.h) | (with_reducible refine Mods.trans ?_ hE))
      · have hge : n + 1 ≤ s := by omega
        have V := Lib.hid (show recV s t b true n = .tuple #[winV s n (maskN (n + 1)) false, .int .i64 0] by simp [recV, recE, hr, hlt])
        have hm : i64In (n + 1) := by unfold i64In; omega
        clear hlt hr hq hs ht hn
        rw [V.out]
        go_enter Try.func10, Try.ntmps10
        go_wp2_with fail
        refine (H.out _).mono ?_
        rintro e w' ⟨rfl, hE⟩
        obtain ⟨hc1, hc2, hc3⟩ := hE.cells
        have hz : w.heap.size + 1 < w'.heap.size := by simp at hc3; omega
        have hz0 : w.heap.size < w'.heap.size := by omega
        have k0 : World.cell? w' ⟨w.heap.size, 0, none⟩ = some (.int .i64 s) := by simp [go_sem, hc1, hc2, hz0]
        have k1 : World.cell? w' ⟨w.heap.size, 1, none⟩ = some (.int .i64 t) := by simp [go_sem, hc1, hc2, hz0]
        have k2 : World.cell? w' ⟨w.heap.size, 2, none⟩ = some (.int .u64 (b : Int)) := by simp [go_sem, hc1, hc2, hz0]
        have k3 : World.cell? w' ⟨w.heap.size, 3, none⟩ = some (.bool true) := by simp [go_sem, hc1, hc2, hz0]
        have kf : ∀ o, World.frozen? w' ⟨w.heap.size, o, none⟩ = false := fun o => by simp [go_sem, hc1, hc2, hz0]
        have r0 : World.cell? w' ⟨w.heap.size + 1, 0, none⟩ = some (.int .i64 0) := by simp [go_sem, hc1, hc2, hz]
        have r1 : World.cell? w' ⟨w.heap.size + 1, 1, none⟩ = some (.int .i64 0) := by simp [go_sem, hc1, hc2, hz]
        have r2 : World.cell? w' ⟨w.heap.size + 1, 2, none⟩ = some (.int .u64 0) := by simp [go_sem, hc1, hc2, hz]
        have r3 : World.cell? w' ⟨w.heap.size + 1, 3, none⟩ = some (.bool false) := by simp [go_sem, hc1, hc2, hz]
        have rf : ∀ o, World.frozen? w' ⟨w.heap.size + 1, o, none⟩ = false := fun o => by simp [go_sem, hc1, hc2, hz]
        clear hc1 hc2 hc3
        go_wp2
        refine wp_region_x 10 (by kernel_rfl) (by kernel_rfl) (by kernel_rfl) ?_
        simp only [List.take_succ_cons, List.take_zero, List.drop_succ_cons, List.drop_zero]
        refine FlowX.seg [_, _, _, _, _, _, _, _] _ (by kernel_rfl) ?_
        repeat (go_big_quiet_step (fail))
        refine wpQuiet_nil ?_
        refine FlowX.call rfl Try.func28 (by kernel_rfl) (by kernel_rfl) (by kernel_rfl) (by kernel_rfl) (fun x => ext_same (mask_any (n + 1) _ hm)) (by kernel_rfl) ?_
        simp only [Act.put, List.setIfInBounds_toArray, List.set_cons_succ, List.set_cons_zero]
        refine FlowX.seg [_] _ (by kernel_rfl) ?_
        repeat (go_big_quiet_step (fail))
        refine wpQuiet_nil ?_
        refine FlowX.fin (fun x fv hfv => ?_)
        simp only [List.map_nil, List.map_cons, putAll]
        have k'0 : World.cell? x.w ⟨w.heap.size, 0, none⟩ = some (.int .i64 s) := by simp [go_sem, k0, k1, k2, k3, kf, hz0]
        have k'1 : World.cell? x.w ⟨w.heap.size, 1, none⟩ = some (.int .i64 t) := by simp [go_sem, k0, k1, k2, k3, kf, hz0]
        have k'2 : World.cell? x.w ⟨w.heap.size, 2, none⟩ = some (.int .u64 (b : Int)) := by simp [go_sem, k0, k1, k2, k3, kf, hz0]
        have k'3 : World.cell? x.w ⟨w.heap.size, 3, none⟩ = some (.bool true) := by simp [go_sem, k0, k1, k2, k3, kf, hz0]
        have k'f : ∀ o, World.frozen? x.w ⟨w.heap.size, o, none⟩ = false := fun o => by simp [go_sem, k0, k1, k2, k3, kf, hz0]
        have r'0 : World.cell? x.w ⟨w.heap.size + 1, 0, none⟩ = some (.int .i64 0) := by simp [go_sem, r0, r1, r2, r3, rf, hz]
        have r'1 : World.cell? x.w ⟨w.heap.size + 1, 1, none⟩ = some (.int .i64 0) := by simp [go_sem, r0, r1, r2, r3, rf, hz]
        have r'2 : World.cell? x.w ⟨w.heap.size + 1, 2, none⟩ = some (.int .u64 0) := by simp [go_sem, r0, r1, r2, r3, rf, hz]
        have r'3 : World.cell? x.w ⟨w.heap.size + 1, 3, none⟩ = some (.bool false) := by simp [go_sem, r0, r1, r2, r3, rf, hz]
        have r'f : ∀ o, World.frozen? x.w ⟨w.heap.size + 1, o, none⟩ = false := fun o => by simp [go_sem, r0, r1, r2, r3, rf, hz]
        clear k0 k1 k2 k3 kf r0 r1 r2 r3 rf
        go_wp2
        refine bodyPost_ret (v := .tuple #[winV s n (maskN (n + 1)) false, .int .i64 0]) (by simp [results, Try.results10, go_sem, r'0, r'1, r'2, r'3]) rfl ?_
        refine ⟨rfl, ?_⟩
        repeat (first | (with_reducible exact Mods.refl _ _) | (with_reducible refine Mods.alloc ?_ _) | (with_reducible refine Mods.drew ?_) | (with_reducible refine Mods.setCell ?_ (fun hlt => (by first | (simp at hlt; done) | (simp at hlt; omega) | (show _ ≤ _; omega) | (show _ < _; omega))) _) | (with_reducible refine Mods.trans ?_ x.h) | (with_reducible refine Mods.trans ?_ hE))
  · have hr' : rightB s t b l n = false := by simpa using hr
    rw [hr'] at hq
    have H := Lib.hid hq
    have V := Lib.hid (show recV s t b l n = .tuple #[winV 0 0 0 false, .int .i64 1] by simp [recV, recE, hr'])
    clear hq hr hr'
    rw [V.out]
    go_enter Try.func10, Try.ntmps10
    go_wp2_with fail
    refine (H.out _).mono ?_
    rintro e w' ⟨rfl, hE⟩
    obtain ⟨hc1, hc2, hc3⟩ := hE.cells
    have hz : w.heap.size + 1 < w'.heap.size := by simp at hc3; omega
    have r0 : World.cell? w' ⟨w.heap.size + 1, 0, none⟩ = some (.int .i64 0) := by simp [go_sem, hc1, hc2, hz]
    have r1 : World.cell? w' ⟨w.heap.size + 1, 1, none⟩ = some (.int .i64 0) := by simp [go_sem, hc1, hc2, hz]
    have r2 : World.cell? w' ⟨w.heap.size + 1, 2, none⟩ = some (.int .u64 0) := by simp [go_sem, hc1, hc2, hz]
    have r3 : World.cell? w' ⟨w.heap.size + 1, 3, none⟩ = some (.bool false) := by simp [go_sem, hc1, hc2, hz]
    have rf : ∀ o, World.frozen? w' ⟨w.heap.size + 1, o, none⟩ = false := fun o => by simp [go_sem, hc1, hc2, hz]
    clear hc1 hc2 hc3
    go_wp2
    refine bodyPost_ret (v := .tuple #[winV 0 0 0 false, .int .i64 1]) (by simp [results, Try.results10, go_sem, r0, r1, r2, r3]) rfl ?_
    refine ⟨rfl, ?_⟩
    repeat (first | (with_reducible exact Mods.refl _ _) | (with_reducible refine Mods.alloc ?_ _) | (with_reducible refine Mods.drew ?_) | (with_reducible refine Mods.setCell ?_ (fun hlt => (by first | (simp at hlt; done) | (simp at hlt; omega) | (show _ ≤ _; omega) | (show _ < _; omega))) _) | (with_reducible refine Mods.trans ?_ hE))
end Go.Proofs.Ytjmkoelmiehdjaa.W

namespace Go.Proofs.Ytjmkoelmiehdjaa.W
open Go.RowKit L
set_option linter.unusedVariables false
set_option linter.unusedSimpArgs false

def bitB (b : Nat) (i : Int) : Bool := decide (0 ≤ i) && (decide (i < 64) && b.testBit i.toNat)

def okTo (s t : Int) (b k : Nat) : Bool := (List.range k).all fun i => !b.testBit i || (decide ((i : Int) < s) && decide ((i : Int) ≤ t))
end Go.Proofs.Ytjmkoelmiehdjaa.W

namespace Go.Proofs.Ytjmkoelmiehdjaa.W
open Go.RowKit L
set_option linter.unusedVariables false
set_option linter.unusedSimpArgs false

def madeStep (s t : Int) (acc : Nat) (n : Int) : Nat := if 0 ≤ t - n ∧ t - n < s then acc ||| 2 ^ (t - n).toNat else acc
def madeN (s t : Int) (l : List Int) : Nat := l.foldl (madeStep s t) 0

end Go.Proofs.Ytjmkoelmiehdjaa.W

namespace Go.Proofs.Ytjmkoelmiehdjaa.W
open Go.RowKit L
set_option linter.unusedVariables false
set_option linter.unusedSimpArgs false

def seenTo (t : Int) (b m : Nat) : List Int := ((List.range m).filter fun q => b.testBit (63 - q)).map fun q => t - ((63 - q : Nat) : Int)
def seenL (s t : Int) (b : Nat) (l : Bool) : List Int := if validB s t b l then seenTo t b 64 else []

/-- What a function that makes a list of numbers gives. -/
def GivesInts (w : World) (xs : List Int) (e : Ending) (w' : World) : Prop := ∃ v, e = .returned v ∧ w'.ownsRow w.heap.size 3 1 v xs.length (xs.map (.int .i64)) ∧ Ext w w'

def WRel (w : World) (k m : Nat) (out i : Value) (s t : Int) (b : Nat) (l : Bool) (wr : World) : Prop :=
  i = .int .i64 (63 - (m : Int)) ∧ wr.ownsRow (w.heap.size + 1) 3 1 out (seenTo t b m).length ((seenTo t b m).map (.int .i64)) ∧ Ext (w.alloc (.cells #[.int .i64 s, .int .i64 t, .int .u64 (b : Int), .bool l] 24)) wr

end Go.Proofs.Ytjmkoelmiehdjaa.W

namespace Go.Proofs.Ytjmkoelmiehdjaa.W
open Go.RowKit L
set_option linter.unusedVariables false
set_option linter.unusedSimpArgs false

end Go.Proofs.Ytjmkoelmiehdjaa.W

namespace Go.Proofs.Ytjmkoelmiehdjaa.W
open Go.RowKit L
set_option linter.unusedVariables false
set_option linter.unusedSimpArgs false

def hits (s t : Int) (i : Nat) (n : Int) : Bool := decide (0 ≤ t - n) && (decide (t - n < s) && decide ((t - n).toNat = i))

theorem accGt_bit (s : Int) (b k i : Nat) : (accGt s b k).testBit i = ((decide (k ≤ i) && b.testBit (i - k) && decide (i < 64) && decide ((i : Int) < s)) || decide (i = 0)) := by
  unfold accGt
  rw [Nat.testBit_or, Nat.testBit_and, maskN_bit, Nat.testBit_mod_two_pow, Nat.testBit_mul_two_pow, show (1 : Nat) = 2 ^ 0 from rfl, Nat.testBit_two_pow]
  have e : decide (0 = i) = decide (i = 0) := by rw [decide_eq_decide]; omega
  rw [e]
  by_cases h1 : i < 64 <;> by_cases h2 : (i : Int) < s <;> simp [h1, h2]

end Go.Proofs.Ytjmkoelmiehdjaa.W

namespace Go.Proofs.Ytjmkoelmiehdjaa.L
open Go.RowKit
set_option linter.unusedVariables false
set_option linter.unusedSimpArgs false

/-- Only the plain way on is asked. -/
def NormQ (Q : Act → World → Prop) : Exit → Act → World → Prop
  | .normal, a, w => Q a w
  | _, _, _ => False

@[go_sem] theorem normQ_normal (Q : Act → World → Prop) (a : Act) (w : World) : NormQ Q .normal a w = Q a w := rfl
@[go_sem] theorem normQ_panic (Q : Act → World → Prop) (c : List PanicEntry) (a : Act) (w : World) : NormQ Q (.panic c) a w = False := rfl

def wpAnyG (P : Program) (ops : Array Oper) (w0 : World) (wv : Nat → Bool) (Q : Act → World → Prop) : Nat → Array Bool → Act → World → Prop
  | 0, listed, a, w => Region.ready .any ops listed = [] ∧ Q a w
  | fuel + 1, listed, a, w => (Region.ready .any ops listed = [] → Q a w) ∧
    ∀ i ∈ Region.ready .any ops listed, wpOp P ops (NormQ Q) i (fun a' w' => (wv i = false → Ext w0 w') ∧ wpAnyG P ops w0 wv Q fuel (listed.setIfInBounds i true) a' w') a w

section
variable {P : Program} {ops : Array Oper} {Q : Act → World → Prop} {w0 : World} {wv : Nat → Bool}

def waitsOn (o : Oper) (j : Nat) : Bool := o.after.any fun e => Region.binds .any e && e.on == j
theorem waitsOn_spec {o : Oper} {j : Nat} (h : waitsOn o j = true) : ∃ x ∈ o.after, Region.binds .any x = true ∧ x.on = j := by
  obtain ⟨x, hx, hx2⟩ := any_mem h
  simp only [Bool.and_eq_true, beq_iff_eq] at hx2
  exact ⟨x, hx, hx2.1, hx2.2⟩

/-- Operation i may be taken now: plain; it waits only for what is listed or in 'before'; of the operations that are not listed only those in 'before', for which it waits, write what it looks at; nobody else writes its temporary; and whoever is not in E and looks at it, or is let off, waits for it. -/
def takeOkAt (ops : Array Oper) (listed : Array Bool) (wv : Nat → Bool) (E before : List Nat) (size i : Nat) : Bool :=
  (ops[i]?).any fun o => plainOp o && !listed.getD i true && (match o.dst with
    | some d => decide (d < size) && !(o.looksAt ops).contains d &&
      (o.after.all fun e => !Region.binds .any e || listed.getD e.on false || before.contains e.on) &&
      (List.range ops.size).all fun j => j == i || listed.getD j true || (ops[j]?).all fun oj =>
        oj.dst != some d && (match oj.dst with | some dj => !(o.looksAt ops).contains dj || (before.contains j && waitsOn o j) | none => true) &&
        (E.contains j || ((!(oj.looksAt ops).contains d || waitsOn oj i) && (!wv j || waitsOn oj i)))
    | none => false)

def takeOk (ops : Array Oper) (listed : Array Bool) (wv : Nat → Bool) (E : List Nat) (size : Nat) : List Nat → List Nat → Bool
  | _, [] => true
  | before, i :: rest => takeOkAt ops listed wv E before size i && !before.contains i && takeOk ops listed wv E size (before ++ [i]) rest

def dstOf (ops : Array Oper) (i : Nat) : Tmp := ((ops[i]?).bind (·.dst)).getD 0

structure Took (ops : Array Oper) (listed : Array Bool) (wv : Nat → Bool) (E : List Nat) (size i : Nat) : Prop where
  ex : ∃ o, ops[i]? = some o ∧ plainOp o = true ∧ o.dst = some (dstOf ops i) ∧ dstOf ops i ∉ o.looksAt ops
  free : listed.getD i true = false
  lt : dstOf ops i < size
  own : ∀ j oj, ops[j]? = some oj → j ≠ i → listed.getD j true = false → oj.dst ≠ some (dstOf ops i)
  looks : ∀ o j oj dj, ops[i]? = some o → ops[j]? = some oj → j ≠ i → listed.getD j true = false → oj.dst = some dj → dj ∈ o.looksAt ops → j ∈ E ∧ waitsOn o j = true
  read : ∀ j oj, ops[j]? = some oj → j ≠ i → listed.getD j true = false → j ∉ E → (dstOf ops i ∈ oj.looksAt ops → waitsOn oj i = true) ∧ (wv j = true → waitsOn oj i = true)

theorem takeOkAt_spec {listed : Array Bool} {E before : List Nat} {size i : Nat} (h : takeOkAt ops listed wv E before size i = true) (hb : ∀ j ∈ before, j ∈ E) :
    Took ops listed wv E size i ∧ ∀ o, ops[i]? = some o → ∀ e ∈ o.after, Region.binds .any e = true → listed.getD e.on false = true ∨ e.on ∈ before := by
  unfold takeOkAt at h
  cases ho : ops[i]? with
  | none => rw [ho] at h; cases h
  | some o =>
  rw [ho] at h
  simp only [Option.any_some] at h
  simp only [Bool.and_eq_true, Bool.not_eq_true'] at h
  obtain ⟨⟨hpl, hfr⟩, h⟩ := h
  split at h
  · rename_i d hd
    simp only [Bool.and_eq_true, decide_eq_true_eq, Bool.not_eq_true', List.contains_eq_mem, decide_eq_false_iff_not, List.all_eq_true, List.mem_range] at h
    obtain ⟨⟨⟨hlt, hself⟩, hback⟩, hall⟩ := h
    have hdi : dstOf ops i = d := by simp [dstOf, ho, hd]
    have pair : ∀ j oj, ops[j]? = some oj → j ≠ i → listed.getD j true = false →
        oj.dst ≠ some d ∧ (∀ dj, oj.dst = some dj → dj ∈ o.looksAt ops → j ∈ before ∧ waitsOn o j = true) ∧ (j ∉ E → (d ∈ oj.looksAt ops → waitsOn oj i = true) ∧ (wv j = true → waitsOn oj i = true)) := by
      intro j oj hoj hji hlj
      have hjs : j < ops.size := (Array.getElem?_eq_some_iff.1 hoj).1
      have := hall j hjs
      simp only [hoj, hlj, Option.all_some, Bool.or_eq_true, beq_iff_eq, hji, false_or, Bool.and_eq_true, bne_iff_ne, ne_eq, Bool.false_eq_true, or_false, decide_eq_true_eq, Bool.not_eq_true', decide_eq_false_iff_not] at this
      obtain ⟨⟨h1, h2⟩, h3⟩ := this
      refine ⟨h1, fun dj hdj hm => ?_, fun hjE => ?_⟩
      · rw [hdj] at h2
        simp only [Bool.or_eq_true, Bool.and_eq_true, Bool.not_eq_true', decide_eq_false_iff_not, decide_eq_true_eq] at h2
        exact h2.resolve_left fun hn => hn hm
      · have h4 := h3.resolve_left hjE
        refine ⟨fun hm => h4.1.resolve_left fun hn => hn hm, fun hw => h4.2.resolve_left fun hn => by rw [hw] at hn; cases hn⟩
    refine ⟨⟨⟨o, ho, hpl, by rw [hdi]; exact hd, by rw [hdi]; exact hself⟩, hfr, by rw [hdi]; exact hlt, fun j oj hoj hji hlj => by rw [hdi]; exact (pair j oj hoj hji hlj).1, ?_, ?_⟩, ?_⟩
    · intro o' j oj dj ho' hoj hji hlj hdj hm
      obtain rfl : o = o' := by rw [ho] at ho'; exact Option.some.inj ho'
      have := (pair j oj hoj hji hlj).2.1 dj hdj hm
      exact ⟨hb j this.1, this.2⟩
    · intro j oj hoj hji hlj hjE
      rw [hdi]; exact (pair j oj hoj hji hlj).2.2 hjE
    · intro o' ho' e he hbe
      obtain rfl : o = o' := Option.some.inj ho'
      have := Array.all_eq_true_iff_forall_mem.1 hback e he
      simp only [hbe, Bool.not_true, Bool.false_or, Bool.or_eq_true, decide_eq_true_eq] at this
      simpa using this
  · cases h


theorem notin_of_takeOk {listed : Array Bool} {E : List Nat} {size k : Nat} : ∀ (l2 b2 : List Nat), takeOk ops listed wv E size b2 l2 = true → k ∈ b2 → k ∉ l2 := by
  intro l2
  induction l2 with
  | nil => intro b2 _ _ hm; cases hm
  | cons x l2 ih2 =>
    intro b2 hk hb hm
    simp only [takeOk, Bool.and_eq_true, Bool.not_eq_true', List.contains_eq_mem, decide_eq_false_iff_not] at hk
    rcases List.mem_cons.1 hm with e | hm
    · exact hk.1.2 (e ▸ hb)
    · exact ih2 _ hk.2 (List.mem_append_left _ hb) hm

theorem wanted_agree {o : Oper} {A B : Act} (hsz : A.tmps.size = B.tmps.size) (hag : ∀ t ∈ o.looksAt ops, A.eval (.tmp t) = B.eval (.tmp t)) :
    Region.wanted o (yielded ops A.tmps) = Region.wanted o (yielded ops B.tmps) := by
  unfold Region.wanted
  cases hg : o.guard with
  | none => rfl
  | some gw =>
    obtain ⟨g, want⟩ := gw
    have hy : yielded ops A.tmps g = yielded ops B.tmps g := by
      unfold yielded
      cases ht : (ops[g]?).bind (·.dst) with
      | none => rfl
      | some t =>
        have he := hag t (List.mem_append_right _ (by simp [hg, ht]))
        by_cases hts : t < A.tmps.size
        · have hts' : t < B.tmps.size := by rw [← hsz]; exact hts
          simp [Act.eval, Array.getD, hts, hts'] at he
          simp [hts, hts', he]
        · have hts' : ¬ t < B.tmps.size := by rw [← hsz]; exact hts
          simp [hts, hts']
    simp only [hy]

theorem exec_agree {o : Oper} {A B : Act} (hns : ∀ cs b, o.op ≠ .select cs b) (hag : ∀ t ∈ o.looksAt ops, A.eval (.tmp t) = B.eval (.tmp t)) : execOp A.eval o = execOp B.eval o :=
  execOp_congr o hns fun x hx => by
    cases x with
    | tmp t => exact hag t (List.mem_append_left _ (List.mem_filterMap.2 ⟨.tmp t, by simpa using hx, rfl⟩))
    | _ => rfl

/-- What a walk of the plain operations shows: each has one outcome, at the frame behind them all. -/
theorem quiet_ends {listed : Array Bool} {E : List Nat} {C : World → Prop} {Q' : Act → Prop} : ∀ (is before : List Nat) (l : List Oper) (a : Act), takeOk ops listed wv E a.tmps.size before is = true → (∀ j ∈ before ++ is, j ∈ E) →
    is.map (fun i => ops[i]?) = l.map some → wpQuiet P ops C Q' l a →
    ∃ a1 : Act, Q' a1 ∧ a1.tmps.size = a.tmps.size ∧ a1.defers = a.defers ∧ (∀ t, (∀ i ∈ is, dstOf ops i ≠ t) → a1.eval (.tmp t) = a.eval (.tmp t)) ∧
      (∀ i ∈ is, Took ops listed wv E a.tmps.size i) ∧ (∀ i ∈ is, ∀ o, ops[i]? = some o → YieldsIn P ops C o (a1.eval (.tmp (dstOf ops i))) a1) := by
  intro is
  induction is with
  | nil =>
    intro before l a _ _ hl h
    cases l with
    | nil => exact ⟨a, h, rfl, rfl, fun _ _ => rfl, fun i hi => (by cases hi), fun i hi => (by cases hi)⟩
    | cons o l => simp at hl
  | cons i is ih =>
    intro before l a hok hsub hl h
    cases l with
    | nil => simp at hl
    | cons o l =>
      simp only [List.map_cons, List.cons.injEq] at hl
      obtain ⟨ho, hl⟩ := hl
      simp only [takeOk, Bool.and_eq_true] at hok
      obtain ⟨⟨hat, hnb⟩, hok⟩ := hok
      obtain ⟨hT, _⟩ := takeOkAt_spec hat fun j hj => hsub j (List.mem_append_left _ hj)
      obtain ⟨o', ho', hpl, hd, hself⟩ := hT.ex
      obtain rfl : o = o' := by rw [ho] at ho'; exact Option.some.inj ho'
      -- the step
      have hstep : ∃ v, YieldsIn P ops C o v a ∧ wpQuiet P ops C Q' l (a.put o.dst v) := by
        unfold wpQuiet at h
        split at h
        · rename_i hw
          obtain ⟨v, h1, h2⟩ := h
          exact ⟨v, .inl ⟨hw, h1⟩, h2⟩
        · rename_i hw
          exact ⟨undef, .inr ⟨by simpa using hw, rfl⟩, h⟩
      obtain ⟨v, hy, hq⟩ := hstep
      rw [hd] at hq
      have hsz : (a.put (some (dstOf ops i)) v).tmps.size = a.tmps.size := by simp [Act.put]
      obtain ⟨a1, hQ, h1, h2, h3, h4, h5⟩ := ih (before ++ [i]) l _ (by rw [hsz]; exact hok) (fun j hj => hsub j (by simpa using hj)) hl hq
      rw [hsz] at h1 h4
      have hne : ∀ j ∈ is, dstOf ops j ≠ dstOf ops i := fun j hj e => by
        have hTj := h4 j hj
        obtain ⟨oj, hoj, _, hdj, _⟩ := hTj.ex
        by_cases hji : i = j
        · -- i again
          subst hji
          exact notin_of_takeOk is (before ++ [i]) hok (by simp) hj
        · exact hTj.own i o ho hji hT.free (by rw [hd, e])
      refine ⟨a1, hQ, h1, by rw [h2]; simp [Act.put], ?_, ?_, ?_⟩
      · intro t ht
        rw [h3 t fun j hj => ht j (List.mem_cons_of_mem _ hj), eval_put_other (ht i (List.mem_cons_self ..))]
      · intro j hj
        rcases List.mem_cons.1 hj with rfl | hj
        · exact hT
        · exact h4 j hj
      · intro j hj oj hoj
        rcases List.mem_cons.1 hj with rfl | hj
        · obtain rfl : o = oj := by rw [ho] at hoj; exact Option.some.inj hoj
          have hv : a1.eval (.tmp (dstOf ops j)) = v := by rw [h3 _ hne, eval_put_same hT.lt]
          rw [hv]
          have hag : ∀ t ∈ o.looksAt ops, a1.eval (.tmp t) = a.eval (.tmp t) := fun t ht => by
            have hjt : dstOf ops j ≠ t := fun e => hself (by rw [e]; exact ht)
            have hkt : ∀ k ∈ is, dstOf ops k ≠ t := fun k hk e => by
              have hTk := h4 k hk
              obtain ⟨ok, hok', _, hdk, _⟩ := hTk.ex
              by_cases hkj : k = j
              · subst hkj; exact hjt e
              · have := hT.looks o k ok _ ho hok' hkj hTk.free hdk (by rw [e]; exact ht)
                obtain ⟨x, hx, hxb, hxo⟩ := waitsOn_spec this.2
                have hb2 := (takeOkAt_spec hat fun j hj => hsub j (List.mem_append_left _ hj)).2 o ho x hx hxb
                rw [hxo] at hb2
                rcases hb2 with hb2 | hb2
                · have hf := hTk.free
                  by_cases hks : k < listed.size
                  · rw [getD_tf hks, hb2] at hf; cases hf
                  · simp [Array.getD, hks] at hf
                · exact notin_of_takeOk is (before ++ [j]) hok (List.mem_append_left _ hb2) hk
            rw [h3 t hkt, eval_put_other hjt]
          refine hy.of_same (execOp_congr o ?_ fun x hx => ?_) ?_
          · intro cs b e; simp [plainOp, e] at hpl
          · cases x with
            | tmp t => exact hag t (List.mem_append_left _ (List.mem_filterMap.2 ⟨.tmp t, by simpa using hx, rfl⟩))
            | _ => rfl
          · exact wanted_agree h1 hag
        · exact h5 j hj oj hoj


theorem getD_not {listed : Array Bool} {i : Nat} (h : listed.getD i true = false) : i < listed.size ∧ listed.getD i false = false := by
  by_cases hs : i < listed.size
  · exact ⟨hs, by rw [← getD_tf hs]; exact h⟩
  · simp [Array.getD, hs] at h
theorem getD_true_of {listed : Array Bool} {i : Nat} (hs : i < listed.size) (h : listed.getD i false = false) : listed.getD i true = false := by rw [getD_tf hs]; exact h

theorem takeOk_split {listed : Array Bool} {E : List Nat} {size : Nat} : ∀ (l1 before : List Nat) (i : Nat) (l2 : List Nat), takeOk ops listed wv E size before (l1 ++ i :: l2) = true → (∀ j ∈ before ++ (l1 ++ i :: l2), j ∈ E) →
    ∀ o, ops[i]? = some o → ∀ e ∈ o.after, Region.binds .any e = true → listed.getD e.on false = true ∨ e.on ∈ before ++ l1 := by
  intro l1
  induction l1 with
  | nil =>
    intro before i l2 h hsub
    simp only [List.nil_append, takeOk, Bool.and_eq_true] at h
    have := (takeOkAt_spec h.1.1 fun j hj => hsub j (List.mem_append_left _ hj)).2
    simpa using this
  | cons x l1 ih =>
    intro before i l2 h hsub
    simp only [List.cons_append, takeOk, Bool.and_eq_true] at h
    have := ih (before ++ [x]) i l2 h.2 (fun j hj => hsub j (by simpa using hj))
    simpa using this

structure GInv (P : Program) (ops : Array Oper) (w0 : World) (wv : Nat → Bool) (E : List Nat) (listed0 listed : Array Bool) (A : Act) (W : World) (listedB : Array Bool) (B : Act) : Prop where
  s1 : listed.size = ops.size
  s2 : listedB.size = ops.size
  mono : ∀ i, listed0.getD i false = true → listed.getD i false = true
  both : ∀ i, i < ops.size → listedB.getD i false = (listed.getD i false || decide (i ∈ E))
  tmps : A.tmps.size = B.tmps.size
  defers : A.defers = B.defers
  same : ∀ t, (∀ i ∈ E, listed.getD i false = false → dstOf ops i ≠ t) → A.eval (.tmp t) = B.eval (.tmp t)
  pend : ∀ i ∈ E, listed.getD i false = false → ∀ o, ops[i]? = some o → YieldsIn P ops (fun w => ∃ x : SW w0, w = x.w) o (B.eval (.tmp (dstOf ops i))) B
  ext : (∃ i ∈ E, listed.getD i false = false) → Ext w0 W

theorem G_run {E : List Nat} {listed0 : Array Bool} {size0 : Nat} (hsel : ∀ (j : Nat) (o : Oper) cs b, ops[j]? = some o → o.op ≠ .select cs b) (hs0 : listed0.size = ops.size)
    (hT : ∀ i ∈ E, Took ops listed0 wv E size0 i) (hord : takeOk ops listed0 wv E size0 [] E = true) :
    ∀ (fuel : Nat) (listed : Array Bool) (A : Act) (W : World) (fuelB : Nat) (listedB : Array Bool) (B : Act), fuel = listed.toList.count false → fuelB = listedB.toList.count false → B.tmps.size = size0 →
      GInv P ops w0 wv E listed0 listed A W listedB B → wpAnyG P ops w0 wv Q fuelB listedB B W → wpAnyG P ops w0 wv Q fuel listed A W := by
  intro fuel
  induction fuel with
  | zero =>
    intro listed A W fuelB listedB B hc hcB hBs hI hK
    have hall : ∀ i, i < ops.size → listed.getD i false = true := by
      intro i hi
      have hi' : i < listed.size := by rw [hI.s1]; exact hi
      cases hb : listed.getD i false with
      | true => rfl
      | false =>
        exfalso
        have hm : false ∈ listed.toList := by rw [← hb]; simp [Array.getD, hi']
        have := List.count_pos_iff.2 hm
        omega
    have hAB : A = B := act_ext hI.tmps hI.defers fun t => hI.same t fun i hi hl => by
      obtain ⟨o, ho, _⟩ := (hT i hi).ex
      rw [hall i (Array.getElem?_eq_some_iff.1 ho).1] at hl; cases hl
    have hLB : listedB = listed := by
      apply Array.ext (by rw [hI.s1, hI.s2])
      intro i h1 h2
      have h3 : i < ops.size := by rw [← hI.s1]; exact h2
      have := hI.both i h3
      rw [hall i h3] at this
      have h4 := hall i h3
      simp [Array.getD, h1, h2] at this h4
      rw [this, h4]
    subst hAB
    subst hLB
    have : fuelB = 0 := by omega
    subst this
    exact hK
  | succ fuel ih =>
    intro listed A W fuelB listedB B hc hcB hBs hI hK
    have hready_lt : ∀ {L : Array Bool} {i : Nat}, i ∈ Region.ready .any ops L → i < ops.size := fun hi => by
      obtain ⟨_, o, ho, _⟩ := mem_ready.1 hi
      exact (Array.getElem?_eq_some_iff.1 ho).1
    have hun0 : ∀ j, j < ops.size → listed.getD j false = false → listed0.getD j true = false := fun j hj hl => by
      rw [getD_tf (by rw [hs0]; exact hj)]
      cases hb : listed0.getD j false with
      | false => rfl
      | true => rw [hI.mono j hb] at hl; cases hl
    -- the first one of E that is still to come may come up now
    have hfirst : (∃ i ∈ E, listed.getD i false = false) → Region.ready .any ops listed ≠ [] := by
      rintro ⟨i, hiE, hil⟩ hempty
      have key : ∀ (l2 l1 : List Nat), E = l1 ++ l2 → (∀ j ∈ l1, listed.getD j false = true) → ∀ j ∈ l2, listed.getD j false = true := by
        intro l2
        induction l2 with
        | nil => intro _ _ _ j hj; cases hj
        | cons x l2 ih2 =>
          intro l1 hE hl1
          have hx : listed.getD x false = true := by
            cases hb : listed.getD x false with
            | true => rfl
            | false =>
              exfalso
              obtain ⟨o, ho, _⟩ := (hT x (by rw [hE]; simp)).ex
              have hxs := (Array.getElem?_eq_some_iff.1 ho).1
              have hr : x ∈ Region.ready .any ops listed := mem_ready.2 ⟨getD_true_of (by rw [hI.s1]; exact hxs) hb, o, ho, fun e he hbe => by
                have := takeOk_split l1 [] x l2 (by rw [← hE]; exact hord) (fun j hj => by rw [hE]; simpa using hj) o ho e he hbe
                rcases this with h | h
                · exact hI.mono _ h
                · exact hl1 _ (by simpa using h)⟩
              rw [hempty] at hr; cases hr
          intro j hj
          rcases List.mem_cons.1 hj with rfl | hj
          · exact hx
          · exact ih2 (l1 ++ [x]) (by rw [hE]; simp) (fun k hk => by
              rcases List.mem_append.1 hk with hk | hk
              · exact hl1 k hk
              · rw [List.mem_singleton.1 hk]; exact hx) j hj
      have := key E [] rfl (fun j hj => by cases hj) i hiE
      rw [hil] at this; cases this
    have hdone : (¬ ∃ i ∈ E, listed.getD i false = false) → A = B ∧ listedB = listed := fun hno => by
      have hAB : A = B := act_ext hI.tmps hI.defers fun t => hI.same t fun i hi hl => absurd ⟨i, hi, hl⟩ hno
      refine ⟨hAB, Array.ext (by rw [hI.s1, hI.s2]) fun i h1 h2 => ?_⟩
      have h3 : i < ops.size := by rw [← hI.s1]; exact h2
      have := hI.both i h3
      cases hb : listed.getD i false with
      | true =>
        rw [hb] at this
        simp [Array.getD, h1, h2] at this hb
        rw [this, hb]
      | false =>
        have hnE : i ∉ E := fun hE => hno ⟨i, hE, hb⟩
        rw [hb] at this
        simp [Array.getD, h1, h2, hnE] at this hb
        rw [this, hb]
    have hfuelB : (∃ j, j < ops.size ∧ listedB.getD j false = false) → ∃ f, fuelB = f + 1 := by
      rintro ⟨j, hj, hl⟩
      have hj' : j < listedB.size := by rw [hI.s2]; exact hj
      have hm : false ∈ listedB.toList := by rw [← hl]; simp [Array.getD, hj']
      have := List.count_pos_iff.2 hm
      exact ⟨fuelB - 1, by omega⟩
    refine ⟨fun hempty => ?_, fun i hi => ?_⟩
    · have hno : ¬ ∃ i ∈ E, listed.getD i false = false := fun h => hfirst h hempty
      obtain ⟨hAB, hLB⟩ := hdone hno
      subst hAB
      subst hLB
      cases fuelB with
      | zero => exact hK.2
      | succ f => exact hK.1 hempty
    · obtain ⟨h0, o, ho, hdeps⟩ := mem_ready.1 hi
      obtain ⟨hil, hif⟩ := getD_not h0
      have hio := hready_lt hi
      have hcs := count_set_true listed.toList i (by simpa using hil) (by simpa [Array.getD, hil] using hif)
      -- what it looks at stands
      have hlook : ∀ j ∈ E, listed.getD j false = false → j ≠ i → dstOf ops j ∉ o.looksAt ops := fun j hjE hjl hji hm => by
        obtain ⟨oj, hoj, _, hdj, _⟩ := (hT j hjE).ex
        have hjs := (Array.getElem?_eq_some_iff.1 hoj).1
        by_cases hiE : i ∈ E
        · have := (hT i hiE).looks o j oj _ ho hoj hji (hun0 j hjs hjl) hdj hm
          obtain ⟨x, hx, hxb, hxo⟩ := waitsOn_spec this.2
          have := hdeps x hx hxb
          rw [hxo, hjl] at this; cases this
        · have := ((hT j hjE).read i o ho (Ne.symm hji) (hun0 i hio hif) hiE).1 hm
          obtain ⟨x, hx, hxb, hxo⟩ := waitsOn_spec this
          have := hdeps x hx hxb
          rw [hxo, hjl] at this; cases this
      have hag : ∀ t ∈ o.looksAt ops, A.eval (.tmp t) = B.eval (.tmp t) := fun t ht => hI.same t fun j hjE hjl e => by
        by_cases hji : j = i
        · subst hji
          obtain ⟨o', ho', _, _, hself⟩ := (hT j hjE).ex
          obtain rfl : o = o' := by rw [ho] at ho'; exact Option.some.inj ho'
          exact hself (by rw [e]; exact ht)
        · exact hlook j hjE hjl hji (by rw [e]; exact ht)
      have hexec := exec_agree (fun cs b => hsel i o cs b ho) hag
      have hwant := wanted_agree (ops := ops) hI.tmps hag
      by_cases hiE : i ∈ E
      · -- one of E
        obtain ⟨o', ho', hpl, hd, hself⟩ := (hT i hiE).ex
        obtain rfl : o = o' := by rw [ho] at ho'; exact Option.some.inj ho'
        have hW := hI.ext ⟨i, hiE, hif⟩
        have hlt := (hT i hiE).lt
        have hnext : wpAnyG P ops w0 wv Q fuel (listed.setIfInBounds i true) (A.put o.dst (B.eval (.tmp (dstOf ops i)))) W := by
          refine ih _ _ _ fuelB listedB B (by simp only [Array.toList_setIfInBounds]; omega) hcB hBs ⟨by simpa using hI.s1, hI.s2, ?_, ?_, ?_, ?_, ?_, ?_, ?_⟩ hK
          · intro j hj
            by_cases hji : j = i
            · subst hji; simp [Array.getD, hil]
            · rw [getD_set_ne false (Ne.symm hji)]; exact hI.mono j hj
          · intro j hj
            by_cases hji : j = i
            · subst hji; rw [hI.both j hj]; simp [Array.getD, hil, hiE]
            · rw [getD_set_ne false (Ne.symm hji)]; exact hI.both j hj
          · rw [hd]; simp [Act.put, hI.tmps]
          · rw [hd]; simp [Act.put, hI.defers]
          · intro t ht
            rw [hd]
            by_cases e : dstOf ops i = t
            · subst e; rw [eval_put_same (by rw [hI.tmps, hBs]; exact hlt)]
            · rw [eval_put_other e]
              refine hI.same t fun j hjE hjl => ?_
              by_cases hji : j = i
              · subst hji; exact e
              · exact ht j hjE (by rw [getD_set_ne false (Ne.symm hji)]; exact hjl)
          · intro j hjE hjl oj hoj
            by_cases hji : j = i
            · subst hji; simp [Array.getD, hil] at hjl
            · rw [getD_set_ne false (Ne.symm hji)] at hjl; exact hI.pend j hjE hjl oj hoj
          · rintro ⟨j, hjE, hjl⟩
            exact hW
        have hy := hI.pend i hiE hif o ho
        unfold wpOp
        rw [ho]
        show if Region.wanted o (yielded ops A.tmps) = true then _ else _
        rw [hwant]
        rcases hy with ⟨hw, hq⟩ | ⟨hw, hv⟩
        · rw [if_pos hw]
          refine .inl ?_
          have hq1 := hq W ⟨⟨W, hW⟩, rfl⟩
          have hne := fun f args W' => plainOp_run (P := P) hpl B.eval (W := W) (W' := W') (f := f) (args := args)
          unfold Oper.quietAt at hq1
          unfold Oper.wp
          rw [hexec]
          generalize (execOp B.eval o).run P W = r at *
          cases r with
          | ok nx w' =>
            cases nx <;> simp only [Oper.quietUpon] at hq1 <;> simp only [Oper.upon]
            case value u =>
              obtain ⟨e1, e2⟩ := hq1
              rw [e1, e2]; exact ⟨fun _ => hW, hnext⟩
            case skip =>
              obtain ⟨e1, e2⟩ := hq1
              rw [e1, ← e2]; exact ⟨fun _ => hW, hnext⟩
            case enter f args => exact absurd rfl (hne f args w')
          | halt x w' => simp only [Oper.quietUpon] at hq1
        · rw [if_neg (by rw [hw]; simp)]
          rw [hv] at hnext
          exact ⟨fun _ => hW, hnext⟩
      · -- another one
        have hiB : listedB.getD i false = false := by rw [hI.both i hio, hif]; simp [hiE]
        obtain ⟨f, rfl⟩ := hfuelB ⟨i, hio, hiB⟩
        have hiBl : i < listedB.size := by rw [hI.s2]; exact hio
        have hcsB := count_set_true listedB.toList i (by simpa using hiBl) (by simpa [Array.getD, hiBl] using hiB)
        have hrB : i ∈ Region.ready .any ops listedB := mem_ready.2 ⟨getD_true_of hiBl hiB, o, ho, fun e he hbe => by
          have h1 := hdeps e he hbe
          by_cases hes : e.on < ops.size
          · rw [hI.both _ hes, h1]; rfl
          · simp [Array.getD, show ¬ e.on < listed.size by rw [hI.s1]; exact hes] at h1⟩
        have hop := hK.2 i hrB
        have hnext : ∀ (ds : List Deferred) v w', ((wv i = false → Ext w0 w') ∧ wpAnyG P ops w0 wv Q f (listedB.setIfInBounds i true) (({ B with defers := ds } : Act).put o.dst v) w') →
            ((wv i = false → Ext w0 w') ∧ wpAnyG P ops w0 wv Q fuel (listed.setIfInBounds i true) (({ A with defers := ds } : Act).put o.dst v) w') := by
          rintro ds v w' ⟨hE', hK'⟩
          have evA : ∀ t, (({ A with defers := ds } : Act).put o.dst v).eval (.tmp t) = (A.put o.dst v).eval (.tmp t) := fun t => by cases o.dst <;> rfl
          have evB : ∀ t, (({ B with defers := ds } : Act).put o.dst v).eval (.tmp t) = (B.put o.dst v).eval (.tmp t) := fun t => by cases o.dst <;> rfl
          refine ⟨hE', ih _ _ _ f _ (({ B with defers := ds } : Act).put o.dst v) (by simp only [Array.toList_setIfInBounds]; omega) (by simp only [Array.toList_setIfInBounds]; omega) ?_ ⟨by simpa using hI.s1, by simpa using hI.s2, ?_, ?_, ?_, ?_, ?_, ?_, ?_⟩ hK'⟩
          · rw [← hBs]; cases o.dst <;> simp [Act.put]
          · intro j hj
            by_cases hji : j = i
            · subst hji; simp [Array.getD, hil]
            · rw [getD_set_ne false (Ne.symm hji)]; exact hI.mono j hj
          · intro j hj
            by_cases hji : j = i
            · subst hji; simp [Array.getD, hil, hiBl]
            · rw [getD_set_ne false (Ne.symm hji), getD_set_ne false (Ne.symm hji)]; exact hI.both j hj
          · cases o.dst <;> simp [Act.put, hI.tmps]
          · cases o.dst <;> simp [Act.put]
          · intro t ht
            rw [evA, evB]
            have hold : (∀ d, o.dst = some d → d ≠ t) → (A.put o.dst v).eval (.tmp t) = (B.put o.dst v).eval (.tmp t) := fun hd => by
              have h1 : A.eval (.tmp t) = B.eval (.tmp t) := hI.same t fun j hjE hjl => by
                by_cases hji : j = i
                · exact absurd (hji ▸ hjE) hiE
                · exact ht j hjE (by rw [getD_set_ne false (Ne.symm hji)]; exact hjl)
              cases hdd : o.dst with
              | none => exact h1
              | some d => rw [eval_put_other (hd d hdd), eval_put_other (hd d hdd)]; exact h1
            cases hdd : o.dst with
            | none => rw [hdd] at hold; exact hold fun d hd => by cases hd
            | some d =>
              by_cases e : d = t
              · subst e
                by_cases hds : d < A.tmps.size
                · rw [eval_put_same hds, eval_put_same (by rw [← hI.tmps]; exact hds)]
                · have hds' : ¬ d < B.tmps.size := by rw [← hI.tmps]; exact hds
                  simp [Act.eval, Act.put, Array.getD, hds, hds']
              · rw [hdd] at hold
                exact hold fun d' hd' => by cases hd'; exact e
          · intro j hjE hjl oj hoj
            have hji : j ≠ i := fun e => hiE (e ▸ hjE)
            rw [getD_set_ne false (Ne.symm hji)] at hjl
            have hy := hI.pend j hjE hjl oj hoj
            have hjs := (Array.getElem?_eq_some_iff.1 hoj).1
            have hnl : ∀ d, o.dst = some d → d ∉ oj.looksAt ops := fun d hd hm => hiE ((hT j hjE).looks oj i o d hoj ho (Ne.symm hji) (hun0 i hio hif) hd hm).1
            have hnd : ∀ d, o.dst = some d → d ≠ dstOf ops j := fun d hd e => (hT j hjE).own i o ho (Ne.symm hji) (hun0 i hio hif) (by rw [hd, e])
            have hv : (B.put o.dst v).eval (.tmp (dstOf ops j)) = B.eval (.tmp (dstOf ops j)) := Act.eval_put fun d hd e => hnd d hd (by injection e with e; exact e.symm)
            rw [evB, hv]
            have hyd : YieldsIn P ops (fun w => ∃ x : SW w0, w = x.w) oj (B.eval (.tmp (dstOf ops j))) ({ B with defers := ds } : Act) := hy.of_same rfl rfl
            refine hyd.of_same (execOp_put oj (fun cs b => hsel j oj cs b hoj) _ o.dst v hnl) (wanted_put oj _ o.dst v hnl)
            -- oj (fun cs b => hsel j oj cs b hoj) B o.dst v hnl) (wanted_put oj B o.dst v hnl)
          · rintro ⟨j, hjE, hjl⟩
            have hji : j ≠ i := fun e => hiE (e ▸ hjE)
            rw [getD_set_ne false (Ne.symm hji)] at hjl
            refine hE' ?_
            cases hwi : wv i with
            | false => rfl
            | true =>
              exfalso
              have := ((hT j hjE).read i o ho (Ne.symm hji) (hun0 i hio hif) hiE).2 hwi
              obtain ⟨x, hx, hxb, hxo⟩ := waitsOn_spec this
              have := hdeps x hx hxb
              rw [hxo, hjl] at this; cases this
        unfold wpOp at hop ⊢
        rw [ho] at hop ⊢
        show if Region.wanted o (yielded ops A.tmps) = true then _ else _
        have hop' : if Region.wanted o (yielded ops B.tmps) = true then _ else _ := hop
        rw [hwant]
        split
        · rename_i hw
          rw [if_pos hw] at hop'
          refine .inl ?_
          have hop2 := hop'.resolve_right (by rintro ⟨_, _, _, hh⟩; exact (hh : False).elim)
          unfold Oper.wp at hop2 ⊢
          rw [hexec]
          generalize (execOp B.eval o).run P W = r at *
          cases r with
          | ok nx w' =>
            cases nx <;> simp only [Oper.upon] at hop2 ⊢
            case value u => exact hnext B.defers u w' hop2 |> fun h => by have hd := hI.defers; rw [← hd] at h; exact h
            case skip => exact hnext B.defers undef w' hop2 |> fun h => by have hd := hI.defers; rw [← hd] at h; exact h
            case defer dd => exact hnext (dd :: B.defers) undef w' hop2 |> fun h => by have hd := hI.defers; rw [← hd] at h; exact h
            case enter g args =>
              refine Calls.mono hop2 fun e W' he => ?_
              cases e with
              | returned u => exact hnext B.defers u W' he |> fun h => by have hd := hI.defers; rw [← hd] at h; exact h
              | panicked ch => exact (he : False).elim
              | outgrown => obtain ⟨_, _, hh⟩ := he; exact (hh : False).elim
            case row row args => exact Rows.mono hop2 fun u W' he => hnext B.defers u W' he |> fun h => by have hd := hI.defers; rw [← hd] at h; exact h
          | halt x w' => cases x <;> simp only [Oper.upon] at hop2 ⊢ <;> exact (hop2 : False).elim
        · rename_i hw
          rw [if_neg hw] at hop'
          exact hnext B.defers undef W hop' |> fun h => by have hd := hI.defers; rw [← hd] at h; exact h


def setAll (listed : Array Bool) (E : List Nat) : Array Bool := E.foldl (fun L i => L.setIfInBounds i true) listed
theorem setAll_size (E : List Nat) : ∀ listed : Array Bool, (setAll listed E).size = listed.size := by
  induction E with
  | nil => intro _; rfl
  | cons i E ih => intro L; rw [show setAll L (i :: E) = setAll (L.setIfInBounds i true) E from rfl, ih]; simp
theorem setAll_get (E : List Nat) : ∀ (listed : Array Bool) (j : Nat), j < listed.size → (setAll listed E).getD j false = (listed.getD j false || decide (j ∈ E)) := by
  induction E with
  | nil => intro L j _; simp [setAll]
  | cons i E ih =>
    intro L j hj
    rw [show setAll L (i :: E) = setAll (L.setIfInBounds i true) E from rfl, ih _ _ (by simpa using hj)]
    by_cases hji : j = i
    · subst hji; simp [Array.getD, hj]
    · rw [getD_set_ne false (Ne.symm hji)]; simp [hji]

def pickL (l : List Oper) : List Nat → List Oper
  | [] => []
  | i :: is => match l[i]? with
    | some o => o :: pickL l is
    | none => pickL l is

theorem pickL_map (l : List Oper) : ∀ (is : List Nat), (is.all fun i => decide (i < l.length)) = true → is.map (fun i => l.toArray[i]?) = (pickL l is).map some
  | [], _ => rfl
  | i :: is, h => by
    simp only [List.all_cons, Bool.and_eq_true, decide_eq_true_eq] at h
    have hi : l[i]? = some l[i] := by simp [h.1]
    simp only [List.map_cons, pickL, hi, List.map_cons, pickL_map l is h.2]
    simp [h.1]

/-- Plain operations are taken first. -/
theorem G.take {l : List Oper} {a : Act} {w : World} {fuel : Nat} {listed : Array Bool} (E : List Nat) (listed' : Array Bool) (fuel' : Nat) (hns : Region.noSelect l.toArray = true) (hin : (E.all fun i => decide (i < l.length)) = true)
    (hok : takeOk l.toArray listed wv E a.tmps.size [] E = true) (hsz : listed.size = l.toArray.size) (hf : fuel = listed.toList.count false) (hl' : setAll listed E = listed') (hf' : fuel' = listed'.toList.count false) (hE : Ext w0 w)
    (h : wpQuiet P l.toArray (fun w => ∃ x : SW w0, w = x.w) (fun a1 => wpAnyG P l.toArray w0 wv Q fuel' listed' a1 w) (pickL l E) a) : wpAnyG P l.toArray w0 wv Q fuel listed a w := by
  obtain ⟨a1, hK, h1, h2, h3, h4, h5⟩ := quiet_ends E [] (pickL l E) a hok (fun j hj => by simpa using hj) (pickL_map l E hin) h
  subst hl'
  refine G_run (size0 := a.tmps.size) (E := E) (listed0 := listed) (Region.noSelect_spec hns) hsz h4 hok fuel listed a w fuel' (setAll listed E) a1 hf hf' h1 ⟨hsz, by rw [setAll_size]; exact hsz, fun _ h => h, fun i hi => setAll_get E listed i (by rw [hsz]; exact hi), h1.symm, h2.symm, ?_, fun i hi _ o ho => h5 i hi o ho, fun _ => hE⟩ hK
  intro t ht
  refine (h3 t fun i hi => ht i hi ?_).symm
  have hfr := (h4 i hi).free
  exact (getD_not hfr).2

/-- One operation alone may come up. -/
theorem G.one {a : Act} {w : World} {fuel : Nat} {listed : Array Bool} (i : Nat) {o : Oper} (listed' : Array Bool) (ho : ops[i]? = some o) (hr : Region.ready .any ops listed = [i]) (hl' : listed.setIfInBounds i true = listed') (hw : Region.wanted o (yielded ops a.tmps) = true)
    (h : o.wp P a w (fun a' w' => (wv i = false → Ext w0 w') ∧ wpAnyG P ops w0 wv Q fuel listed' a' w') (NormQ Q)) : wpAnyG P ops w0 wv Q (fuel + 1) listed a w := by
  subst hl'
  refine ⟨fun e => (by rw [hr] at e; cases e), fun j hj => ?_⟩
  rw [hr] at hj
  obtain rfl := List.mem_singleton.1 hj
  unfold wpOp
  rw [ho]
  show if Region.wanted o (yielded ops a.tmps) = true then _ else _
  rw [if_pos hw]
  exact .inl h

/-- A call of a Go function. -/
theorem G.call {a : Act} {w : World} {fuel : Nat} {listed : Array Bool} (i : Nat) {o : Oper} (listed' : Array Bool) {f : FuncId} {fn : Func} {xs : Array Operand} {ats : Array TypeId} (ho : ops[i]? = some o)
    (hop : o.op = .call { callee := .value (.func f), args := xs, argTypes := ats }) (hfn : P.funcs[f]? = some fn) (hn : (fn.name == "runtime.NumGoroutine") = false) (hb : fn.body.isNone = false)
    (hr : Region.ready .any ops listed = [i]) (hl' : listed.setIfInBounds i true = listed') (hw : Region.wanted o (yielded ops a.tmps) = true) {args : Array Value} (hargs : xs.map a.eval = args)
    (h : Calls P f args w fun e w' => ∃ v, e = .returned v ∧ (wv i = false → Ext w0 w') ∧ wpAnyG P ops w0 wv Q fuel listed' (a.put o.dst v) w') : wpAnyG P ops w0 wv Q (fuel + 1) listed a w := by
  refine G.one i listed' ho hr hl' hw ?_
  unfold Oper.wp
  rw [run_callF hop hfn hn hb, hargs]
  refine Calls.mono h fun e w' he => ?_
  obtain ⟨v, rfl, h1, h2⟩ := he
  exact ⟨h1, h2⟩

/-- Two may come up: either first. -/
theorem G.two {a : Act} {w : World} {fuel : Nat} {listed : Array Bool} (i j : Nat) (hr : Region.ready .any ops listed = [i, j])
    (h1 : wpOp P ops (NormQ Q) i (fun a' w' => (wv i = false → Ext w0 w') ∧ wpAnyG P ops w0 wv Q fuel (listed.setIfInBounds i true) a' w') a w)
    (h2 : wpOp P ops (NormQ Q) j (fun a' w' => (wv j = false → Ext w0 w') ∧ wpAnyG P ops w0 wv Q fuel (listed.setIfInBounds j true) a' w') a w) : wpAnyG P ops w0 wv Q (fuel + 1) listed a w := by
  refine ⟨fun e => (by rw [hr] at e; cases e), fun k hk => ?_⟩
  rw [hr] at hk
  rcases List.mem_cons.1 hk with rfl | hk
  · exact h1
  · obtain rfl := List.mem_singleton.1 hk
    exact h2

theorem G.wp {a : Act} {w : World} {K : Act → World → Prop} (i : Nat) {o : Oper} (ho : ops[i]? = some o) (hw : Region.wanted o (yielded ops a.tmps) = true) (h : o.wp P a w K (NormQ Q)) : wpOp P ops (NormQ Q) i K a w := by
  unfold wpOp
  rw [ho]
  show if Region.wanted o (yielded ops a.tmps) = true then _ else _
  rw [if_pos hw]
  exact .inl h

theorem G.done {a : Act} {w : World} (fuel : Nat) {listed : Array Bool} (hr : Region.ready .any ops listed = []) (h : Q a w) : wpAnyG P ops w0 wv Q fuel listed a w := by
  cases fuel with
  | zero => exact ⟨hr, h⟩
  | succ f => exact ⟨fun _ => h, fun i hi => by rw [hr] at hi; cases hi⟩

/-- The operations that are left come up one after the other, and are let off. -/
def chainOk (ops : Array Oper) (wv : Nat → Bool) : Array Bool → List Nat → Bool
  | listed, [] => Region.ready .any ops listed == []
  | listed, i :: is => (Region.ready .any ops listed == [i]) && wv i && chainOk ops wv (listed.setIfInBounds i true) is

theorem G.list {l : List Oper} : ∀ (is : List Nat) (fuel : Nat) (listed : Array Bool) (a : Act) (w : World), fuel = is.length → (is.all fun i => decide (i < l.length)) = true → chainOk l.toArray wv listed is = true →
    wpList P l.toArray (NormQ Q) (pickL l is) a w → wpAnyG P l.toArray w0 wv Q fuel listed a w
  | [], fuel, listed, a, w, hf, _, hc, h => G.done fuel (by simpa [chainOk] using hc) h
  | i :: is, fuel, listed, a, w, hf, hin, hc, h => by
    simp only [List.all_cons, Bool.and_eq_true, decide_eq_true_eq] at hin
    simp only [chainOk, Bool.and_eq_true, beq_iff_eq] at hc
    obtain ⟨⟨hr, hwv⟩, hc⟩ := hc
    have hi : l[i]? = some l[i] := by simp [hin.1]
    have ho : l.toArray[i]? = some l[i] := by simp [hin.1]
    simp only [pickL, hi] at h
    subst hf
    have hK : ∀ a' w', wpList P l.toArray (NormQ Q) (pickL l is) a' w' → (wv i = false → Ext w0 w') ∧ wpAnyG P l.toArray w0 wv Q is.length (listed.setIfInBounds i true) a' w' := fun a' w' h' =>
      ⟨fun e => (by rw [hwv] at e; cases e), G.list is is.length _ a' w' rfl hin.2 hc h'⟩
    refine ⟨fun e => (by rw [hr] at e; cases e), fun j hj => ?_⟩
    rw [hr] at hj
    obtain rfl := List.mem_singleton.1 hj
    unfold wpList at h
    unfold wpOp
    rw [ho]
    show if Region.wanted l[j] (yielded l.toArray a.tmps) = true then _ else _
    split
    · rename_i hw; rw [if_pos hw] at h; exact h.imp (Oper.wp_mono hK) id
    · rename_i hw; rw [if_neg hw] at h; exact hK _ _ h

end
end Go.Proofs.Ytjmkoelmiehdjaa.L

namespace Go.Proofs.Ytjmkoelmiehdjaa.W
open Go.RowKit L
set_option linter.unusedVariables false
set_option linter.unusedSimpArgs false

end Go.Proofs.Ytjmkoelmiehdjaa.W

namespace Go.Proofs.Ytjmkoelmiehdjaa.W
open Go.RowKit L
set_option linter.unusedVariables false
set_option linter.unusedSimpArgs false

end Go.Proofs.Ytjmkoelmiehdjaa.W

namespace Go.Proofs.Ytjmkoelmiehdjaa.W
open Go.RowKit L
set_option linter.unusedVariables false
set_option linter.unusedSimpArgs false

def downL (n : Int) (k : Nat) : List Int := (List.range k).map fun (i : Nat) => n - (i : Int)
def RRel (W0 : World) (base : Nat) (n : Int) (c : Nat) (l i : Value) (wr : World) : Prop :=
  ∃ k : Nat, k ≤ c ∧ i = .int .i64 k ∧ wr.ownsRow base 3 1 l k ((downL n k).map (.int .i64)) ∧ Ext W0 wr

end Go.Proofs.Ytjmkoelmiehdjaa.W

namespace Go.Proofs.Ytjmkoelmiehdjaa.W
open Go.RowKit L
set_option linter.unusedVariables false
set_option linter.unusedSimpArgs false

end Go.Proofs.Ytjmkoelmiehdjaa.W

namespace Go.Proofs.Ytjmkoelmiehdjaa.W
open Go.RowKit L
set_option linter.unusedVariables false
set_option linter.unusedSimpArgs false

def SRel (w : World) (m : Nat) (out k : Value) (s t : Int) (b : Nat) (l : Bool) (wr : World) : Prop :=
  k = .int .i64 ((m : Int) - 64 + s) ∧ wr.ownsRow (w.heap.size + 1) 3 1 out (seenTo t b m).length ((seenTo t b m).map (.int .i64)) ∧ Ext (w.alloc (.cells #[.int .i64 s, .int .i64 t, .int .u64 (b : Int), .bool l] 24)) wr

end Go.Proofs.Ytjmkoelmiehdjaa.W

namespace Go.Proofs.Ytjmkoelmiehdjaa.A
open Go.RowKit L
set_option linter.unusedVariables false
set_option linter.unusedSimpArgs false

inductive AV where
  | val (v : Value)
  | ro (full : Bool) (len : Nat) (xs : List AV)
  | agg (xs : List AV)
  | tup (xs : List AV)
  | rp (xs : List AV) (o : Nat)
  | fn (f : Fn) (cap : List AV)
  | opt (c : Bool) (x : AV)

inductive RelV (R : Nat → Prop) (W : World) : AV → Value → Prop
  | val (v : Value) : RelV R W (.val v) v
  | emp (full : Bool) (a : Option Addr) (cap : Nat) : (full = true → cap = 0) → cap ≤ maxLen → RelV R W (.ro full 0 []) (.slice a 0 cap)
  | ro (full : Bool) (len : Nat) (xs : List AV) (b off cap : Nat) (us : Nat → Value) : R b → (∀ j, j < xs.length → W.cell? ⟨b, off + j, none⟩ = some (us j)) →
      (∀ j (h : j < xs.length), RelV R W xs[j] (us j)) → len ≤ cap → cap ≤ maxLen → (full = true → cap = len) → RelV R W (.ro full len xs) (.slice (some ⟨b, off, none⟩) len cap)
  | agg (xs : List AV) (cs : Array Value) : cs.size = xs.length → (∀ j (h : j < xs.length), RelV R W xs[j] (cs.getD j undef)) → RelV R W (.agg xs) (.agg cs)
  | tup (xs : List AV) (cs : Array Value) : cs.size = xs.length → (∀ j (h : j < xs.length), RelV R W xs[j] (cs.getD j undef)) → RelV R W (.tup xs) (.tuple cs)
  | rp (xs : List AV) (o b off : Nat) (us : Nat → Value) : R b → (∀ j, j < xs.length → W.cell? ⟨b, off + j, none⟩ = some (us j)) →
      (∀ j (h : j < xs.length), RelV R W xs[j] (us j)) → RelV R W (.rp xs o) (.pointer (some ⟨b, off + o, none⟩))
  | fn (f : Fn) (xs : List AV) (cs : Array Value) : cs.size = xs.length → (∀ j (h : j < xs.length), RelV R W xs[j] (cs.getD j undef)) → RelV R W (.fn f xs) (.func f #[] cs)
  | opt (c : Bool) (x : AV) (v : Value) : (c = true → RelV R W x v) → (c = false → v = undef) → RelV R W (.opt c x) v

theorem RelV.mono {R R' : Nat → Prop} {W W' : World} (hR : ∀ b, R b → R' b) (hW : ∀ b, R b → W'.heap[b]? = W.heap[b]?) {x : AV} {v : Value} (h : RelV R W x v) : RelV R' W' x v := by
  induction h with
  | val v => exact .val v
  | emp full a cap h1 h2 => exact .emp full a cap h1 h2
  | ro full len xs b off cap us hb hc _ h1 h2 h3 ih => exact .ro full len xs b off cap us (hR b hb) (fun j hj => by rw [World.cell?_of_block (w := W) (hW b hb)]; exact hc j hj) ih h1 h2 h3
  | agg xs cs hs _ ih => exact .agg xs cs hs ih
  | tup xs cs hs _ ih => exact .tup xs cs hs ih
  | rp xs o b off us hb hc _ ih => exact .rp xs o b off us (hR b hb) (fun j hj => by rw [World.cell?_of_block (w := W) (hW b hb)]; exact hc j hj) ih
  | fn f xs cs hs _ ih => exact .fn f xs cs hs ih
  | opt c x v _ h2 ih => exact .opt c x v ih h2

/-- Values that read as these. -/
def RelL (R : Nat → Prop) (W : World) (xs : List AV) (us : List Value) : Prop := us.length = xs.length ∧ ∀ j (h : j < xs.length), RelV R W xs[j] (us.getD j undef)

theorem RelL.mono {R R' : Nat → Prop} {W W' : World} (hR : ∀ b, R b → R' b) (hW : ∀ b, R b → W'.heap[b]? = W.heap[b]?) {xs : List AV} {us : List Value} (h : RelL R W xs us) : RelL R' W' xs us :=
  ⟨h.1, fun j hj => (h.2 j hj).mono hR hW⟩

theorem RelL.nil {R : Nat → Prop} {W : World} : RelL R W [] [] := ⟨rfl, fun j hj => by cases hj⟩
theorem RelL.cons {R : Nat → Prop} {W : World} {x : AV} {xs : List AV} {u : Value} {us : List Value} (h : RelV R W x u) (hs : RelL R W xs us) : RelL R W (x :: xs) (u :: us) :=
  ⟨by simp [hs.1], fun j hj => by
    cases j with
    | zero => simpa using h
    | succ j => simpa using hs.2 j (by simpa using hj)⟩
theorem RelL.uncons {R : Nat → Prop} {W : World} {x : AV} {xs : List AV} {us : List Value} (h : RelL R W (x :: xs) us) : ∃ u r, us = u :: r ∧ RelV R W x u ∧ RelL R W xs r := by
  cases us with
  | nil => have := h.1; simp at this
  | cons u r => exact ⟨u, r, rfl, h.2 0 (by simp), by have := h.1; simpa using this, fun j hj => h.2 (j + 1) (by simp; omega)⟩
theorem RelL.app {R : Nat → Prop} {W : World} {xs ys : List AV} {us vs : List Value} (h : RelL R W xs us) (k : RelL R W ys vs) : RelL R W (xs ++ ys) (us ++ vs) := by
  induction xs generalizing us with
  | nil => have : us = [] := List.eq_nil_of_length_eq_zero (by simpa using h.1)
           subst this; exact k
  | cons x xs ih =>
    obtain ⟨u, r, rfl, h1, h2⟩ := h.uncons
    exact RelL.cons h1 (ih h2)
theorem RelL.get {R : Nat → Prop} {W : World} {xs : List AV} {us : List Value} (h : RelL R W xs us) {j : Nat} {x : AV} (hx : xs[j]? = some x) : ∃ u, us[j]? = some u ∧ RelV R W x u := by
  obtain ⟨hj, rfl⟩ := List.getElem?_eq_some_iff.1 hx
  have hj' : j < us.length := by rw [h.1]; exact hj
  exact ⟨us[j], by simp [hj'], by simpa [hj'] using h.2 j hj⟩
theorem RelL.take {R : Nat → Prop} {W : World} {xs : List AV} {us : List Value} (h : RelL R W xs us) (n : Nat) : RelL R W (xs.take n) (us.take n) :=
  ⟨by simp [h.1], fun j hj => by
    rw [List.length_take] at hj
    have := h.2 j (by omega)
    have e : (us.take n).getD j undef = us.getD j undef := by simp [List.getD, List.getElem?_take, show j < n by omega]
    rw [e, List.getElem_take]; exact this⟩
theorem RelL.drop {R : Nat → Prop} {W : World} {xs : List AV} {us : List Value} (h : RelL R W xs us) (n : Nat) : RelL R W (xs.drop n) (us.drop n) :=
  ⟨by simp [h.1], fun j hj => by
    simp at hj
    have := h.2 (n + j) (by omega)
    have hj' : n + j < us.length := by rw [h.1]; omega
    simpa [hj'] using this⟩
theorem RelL.set {R : Nat → Prop} {W : World} {xs : List AV} {us : List Value} (h : RelL R W xs us) (i : Nat) {x : AV} {u : Value} (hx : RelV R W x u) : RelL R W (xs.set i x) (us.set i u) :=
  ⟨by simp [h.1], fun j hj => by
    simp at hj
    have hj' : j < us.length := by rw [h.1]; exact hj
    by_cases e : i = j
    · subst e; simpa [hj'] using hx
    · simpa [e, hj'] using h.2 j hj⟩

theorem relL_of_agg {R : Nat → Prop} {W : World} {xs : List AV} {cs : Array Value} (hs : cs.size = xs.length) (h : ∀ j (h : j < xs.length), RelV R W xs[j] (cs.getD j undef)) : RelL R W xs cs.toList :=
  ⟨by simpa using hs, fun j hj => by
    have hj' : j < cs.size := by omega
    simpa [Array.getD, hj'] using h j hj⟩
theorem RelL.toAgg {R : Nat → Prop} {W : World} {xs : List AV} {us : List Value} (h : RelL R W xs us) : RelV R W (.agg xs) (.agg us.toArray) :=
  .agg xs _ (by simpa using h.1) fun j hj => by
    have hj' : j < us.length := by rw [h.1]; exact hj
    simpa [Array.getD, hj'] using h.2 j hj
theorem RelL.toTup {R : Nat → Prop} {W : World} {xs : List AV} {us : List Value} (h : RelL R W xs us) : RelV R W (.tup xs) (.tuple us.toArray) :=
  .tup xs _ (by simpa using h.1) fun j hj => by
    have hj' : j < us.length := by rw [h.1]; exact hj
    simpa [Array.getD, hj'] using h.2 j hj
theorem RelL.toFn {R : Nat → Prop} {W : World} {f : Fn} {xs : List AV} {us : List Value} (h : RelL R W xs us) : RelV R W (.fn f xs) (.func f #[] us.toArray) :=
  .fn f xs _ (by simpa using h.1) fun j hj => by
    have hj' : j < us.length := by rw [h.1]; exact hj
    simpa [Array.getD, hj'] using h.2 j hj
theorem RelV.agg_inv {R : Nat → Prop} {W : World} {xs : List AV} {v : Value} (h : RelV R W (.agg xs) v) : ∃ us : List Value, v = .agg us.toArray ∧ RelL R W xs us := by
  cases h with
  | agg _ cs hs h => exact ⟨cs.toList, by simp, relL_of_agg hs h⟩
theorem RelV.tup_inv {R : Nat → Prop} {W : World} {xs : List AV} {v : Value} (h : RelV R W (.tup xs) v) : ∃ us : List Value, v = .tuple us.toArray ∧ RelL R W xs us := by
  cases h with
  | tup _ cs hs h => exact ⟨cs.toList, by simp, relL_of_agg hs h⟩
theorem RelV.opt_inv {R : Nat → Prop} {W : World} {c : Bool} {x : AV} {v : Value} (h : RelV R W (.opt c x) v) : (c = true → RelV R W x v) ∧ (c = false → v = undef) := by
  cases h with
  | opt _ _ _ h1 h2 => exact ⟨h1, h2⟩
theorem RelV.val_inv {R : Nat → Prop} {W : World} {v u : Value} (h : RelV R W (.val v) u) : u = v := by cases h; rfl

/-- What one cell can hold. -/
def AV.one : AV → Bool
  | .val v => v.oneCell'
  | .agg _ | .tup _ | .opt _ _ => false
  | _ => true
theorem RelV.one {R : Nat → Prop} {W : World} {x : AV} {v : Value} (h : RelV R W x v) (h1 : x.one = true) : v.oneCell' = true := by
  cases h <;> first | exact h1 | rfl | cases h1

def AV.cells : AV → List AV
  | .agg xs => xs
  | x => [x]
theorem RelV.cells {R : Nat → Prop} {W : World} {x : AV} {v : Value} (h : RelV R W x v) (h0 : ∀ u, x = .val u → u.oneCell' = true) (h9 : ∀ c y, x ≠ .opt c y) : RelL R W x.cells v.cells.toList := by
  cases h with
  | val v =>
    have := h0 v rfl
    have hc : v.cells = #[v] := by cases v <;> first | rfl | cases this
    rw [hc]; exact RelL.cons (.val v) RelL.nil
  | agg xs cs hs h => exact relL_of_agg hs h
  | emp full a cap h1 h2 => exact RelL.cons (.emp full a cap h1 h2) RelL.nil
  | ro full len xs b off cap us hb hc hr h1 h2 h3 => exact RelL.cons (.ro full len xs b off cap us hb hc hr h1 h2 h3) RelL.nil
  | tup xs cs hs h => exact RelL.cons (.tup xs cs hs h) RelL.nil
  | rp xs o b off us hb hc hr => exact RelL.cons (.rp xs o b off us hb hc hr) RelL.nil
  | fn f xs cs hs h => exact RelL.cons (.fn f xs cs hs h) RelL.nil
  | opt c y _ _ _ => exact absurd rfl (h9 c y)

abbrev Env := List (Nat × AV)
def look : Env → Nat → Option AV
  | [], _ => none
  | (k, v) :: r, t => bif Nat.beq k t then some v else look r t
def ofConst : Value → AV
  | .agg cs => .agg (cs.toList.map .val)
  | v => .val v
theorem ofConst_rel (R : Nat → Prop) (W : World) (v : Value) : RelV R W (ofConst v) v := by
  cases v with
  | agg cs =>
    refine .agg _ cs (by simp) fun j hj => ?_
    have hj' : j < cs.size := by simpa using hj
    simp only [List.getElem_map, Array.getElem_toList, Array.getD, hj', dif_pos]
    exact .val _
  | _ => exact .val _
def ev (E : Env) : Operand → Option AV
  | .tmp t => look E t
  | .const v => some (ofConst v)
  | .global g => some (.val (.pointer (some ⟨g, 0, none⟩)))
  | .func f => some (.fn (.func f) [])
def evs (E : Env) : List Operand → Option (List AV)
  | [] => some []
  | x :: r => match ev E x, evs E r with | some v, some vs => some (v :: vs) | _, _ => none

structure RelA (N : Nat) (R : Nat → Prop) (W : World) (E : Env) (a : Act) : Prop where
  defers : a.defers = []
  size : a.tmps.size = N
  slots : ∀ t v, look E t = some v → RelV R W v (a.eval (.tmp t))

theorem RelA.mono {N : Nat} {R R' : Nat → Prop} {W W' : World} {E : Env} {a : Act} (h : RelA N R W E a) (hR : ∀ b, R b → R' b) (hW : ∀ b, R b → W'.heap[b]? = W.heap[b]?) : RelA N R' W' E a :=
  ⟨h.defers, h.size, fun t v ht => (h.slots t v ht).mono hR hW⟩
theorem RelA.ev {N : Nat} {R : Nat → Prop} {W : World} {E : Env} {a : Act} (h : RelA N R W E a) {x : Operand} {v : AV} (hx : ev E x = some v) : RelV R W v (a.eval x) := by
  cases x with
  | tmp t => exact h.slots t v hx
  | const u => cases hx; exact ofConst_rel ..
  | global g => cases hx; exact .val _
  | func f => cases hx; exact .fn _ [] #[] rfl (fun j hj => by cases hj)
theorem RelA.evs {N : Nat} {R : Nat → Prop} {W : World} {E : Env} {a : Act} (h : RelA N R W E a) : ∀ {xs : List Operand} {vs : List AV}, A.evs E xs = some vs → RelL R W vs (xs.map a.eval)
  | [], vs, hx => by cases hx; exact RelL.nil
  | x :: r, vs, hx => by
    unfold A.evs at hx
    split at hx
    · rename_i v vs' h1 h2
      cases hx
      exact RelL.cons (h.ev h1) (RelA.evs h h2)
    · cases hx
theorem RelA.put {N : Nat} {R : Nat → Prop} {W : World} {E : Env} {a : Act} (h : RelA N R W E a) {d : Nat} (hd : d < N) {v : AV} {u : Value} (hv : RelV R W v u) : RelA N R W ((d, v) :: E) (a.put (some d) u) := by
  refine ⟨h.defers, by simp [Act.put, h.size], fun t x hx => ?_⟩
  unfold look at hx
  by_cases e : d = t
  · subst e
    simp at hx
    subst hx
    rw [eval_put_same (by rw [h.size]; exact hd)]; exact hv
  · have : Nat.beq d t = false := by cases hb : Nat.beq d t with | false => rfl | true => exact absurd (Nat.eq_of_beq_eq_true hb) e
    rw [this] at hx
    rw [eval_put_other e]; exact h.slots t x hx
theorem RelA.none {N : Nat} {R : Nat → Prop} {W : World} {E : Env} {a : Act} (h : RelA N R W E a) (u : Value) : RelA N R W E (a.put none u) := h

/-- What is the walk's own. -/
inductive HE where
  | blk (b : Nat) (T : TypeId) (room : Nat) (xs : List AV)
  | row (v : Value) (T : TypeId) (sz n : Nat) (xs : List AV)
  | prd (foot : Nat → Prop) (p : World → Prop)

def HE.foot : HE → Nat → Prop
  | .blk b .., k => k = b
  | .row v .., k => v.ownBlock = some k
  | .prd f _, k => f k

def HE.ok (R : Nat → Prop) (W : World) : HE → Prop
  | .blk b T room xs => ∃ us : List Value, ∃ cs : Array Value, W.heap[b]? = some (.cells cs T (0, 0)) ∧ cs.size = room ∧ cs.toList.take xs.length = us ∧ RelL R W xs us
  | .row v T sz n xs => ∃ us : List Value, W.ownsRow 0 T sz v n us ∧ RelL R W xs us
  | .prd f p => p W ∧ (∀ W' : World, W.heap.size ≤ W'.heap.size → (∀ b, f b → W'.heap[b]? = W.heap[b]?) → p W') ∧ ∀ b, f b → b < W.heap.size

theorem HE.ok_lt {R : Nat → Prop} {W : World} {e : HE} (h : e.ok R W) {b : Nat} (hb : e.foot b) : b < W.heap.size := by
  cases e with
  | blk b' T room xs =>
    obtain ⟨us, cs, h1, _⟩ := h
    cases hb
    exact (Array.getElem?_eq_some_iff.1 h1).1
  | row v T sz n xs =>
    obtain ⟨us, h1, _⟩ := h
    exact (h1.lt b hb).2
  | prd f p => exact h.2.2 b hb

theorem HE.ok_mono {R R' : Nat → Prop} {W W' : World} (hR : ∀ b, R b → R' b) (hW : ∀ b, R b → W'.heap[b]? = W.heap[b]?) {e : HE} (hs : W.heap.size ≤ W'.heap.size) (hf : ∀ b, e.foot b → W'.heap[b]? = W.heap[b]?) (h : e.ok R W) : e.ok R' W' := by
  cases e with
  | blk b T room xs =>
    obtain ⟨us, cs, h1, h2, h3, h4⟩ := h
    exact ⟨us, cs, by rw [hf b rfl]; exact h1, h2, h3, h4.mono hR hW⟩
  | row v T sz n xs =>
    obtain ⟨us, h1, h2⟩ := h
    refine ⟨us, ⟨h1.1, ?_⟩, h2.mono hR hW⟩
    rcases h1.2 with h | ⟨g, cap, cur, rfl, hb, hg, rest⟩
    · exact .inl h
    · exact .inr ⟨g, cap, cur, rfl, hb, by rw [hf g rfl]; exact hg, rest⟩
  | prd f p =>
    obtain ⟨h1, h2, h3⟩ := h
    refine ⟨h2 W' hs hf, fun W2 hs2 h4 => h2 W2 (by omega) fun b hb => (h4 b hb).trans (hf b hb), fun b hb => Nat.lt_of_lt_of_le (h3 b hb) hs⟩

def Disj (e f : HE) : Prop := ∀ b, e.foot b → ¬ f.foot b

structure Cx where
  w0 : World
  S : Nat → Prop
  R0 : Nat → Prop
  N : Nat

structure RelS (Γ : Cx) (R : Nat → Prop) (H : List HE) (W : World) : Prop where
  mods : Mods Γ.S Γ.w0 W
  rlt : ∀ b, R b → b < W.heap.size
  rsub : ∀ b, Γ.R0 b → R b
  rnew : ∀ b, R b → Γ.R0 b ∨ Γ.w0.heap.size ≤ b ∨ Γ.S b
  ok : ∀ e ∈ H, e.ok R W
  own : ∀ e ∈ H, ∀ b, e.foot b → (Γ.w0.heap.size ≤ b ∨ Γ.S b) ∧ ¬ R b
  disj : H.Pairwise Disj

/-- What one operation, or one call, leaves: nothing that was there differs; new blocks. -/
structure Post1 (R : Nat → Prop) (W : World) (v : AV) (Hn : List HE) (u : Value) (W' : World) (R' : Nat → Prop) : Prop where
  ext : Ext W W'
  sub : ∀ b, R b → R' b
  new : ∀ b, R' b → R b ∨ (W.heap.size ≤ b ∧ b < W'.heap.size)
  val : RelV R' W' v u
  ok : ∀ e ∈ Hn, e.ok R' W' ∧ ∀ b, e.foot b → W.heap.size ≤ b ∧ ¬ R' b
  disj : Hn.Pairwise Disj

theorem extSame {W W' : World} (h : Ext W W') {R : Nat → Prop} (hR : ∀ b, R b → b < W.heap.size) : ∀ b, R b → W'.heap[b]? = W.heap[b]? := fun b hb => h.block b (hR b hb) (fun hh => hh)

theorem RelS.step {Γ : Cx} {R R' : Nat → Prop} {H Hn : List HE} {W W' : World} {v : AV} {u : Value} (h : RelS Γ R H W) (p : Post1 R W v Hn u W' R') : RelS Γ R' (Hn ++ H) W' := by
  have hfl : ∀ e ∈ H, ∀ b, e.foot b → b < W.heap.size := fun e he b hb => HE.ok_lt (h.ok e he) hb
  refine ⟨h.mods.trans p.ext.any, fun b hb => ?_, fun b hb => p.sub b (h.rsub b hb), fun b hb => ?_, ?_, ?_, ?_⟩
  · rcases p.new b hb with hb | hb
    · exact Nat.lt_of_lt_of_le (h.rlt b hb) p.ext.size
    · exact hb.2
  · rcases p.new b hb with hb | hb
    · exact h.rnew b hb
    · exact .inr (.inl (Nat.le_trans h.mods.size hb.1))
  · intro e he
    rcases List.mem_append.1 he with he | he
    · exact (p.ok e he).1
    · exact HE.ok_mono p.sub (extSame p.ext h.rlt) p.ext.size (fun b hb => p.ext.block b (hfl e he b hb) fun hh => hh) (h.ok e he)
  · intro e he b hb
    rcases List.mem_append.1 he with he | he
    · have := (p.ok e he).2 b hb
      exact ⟨.inl (Nat.le_trans h.mods.size this.1), this.2⟩
    · refine ⟨(h.own e he b hb).1, fun hr => ?_⟩
      rcases p.new b hr with hr | hr
      · exact (h.own e he b hb).2 hr
      · have := hfl e he b hb; omega
  · rw [List.pairwise_append]
    refine ⟨p.disj, h.disj, fun e he f hf b hb hb' => ?_⟩
    have h1 := ((p.ok e he).2 b hb).1
    have h2 := hfl f hf b hb'
    omega

/-- Fewer facts. -/
def Sub (H' H : List HE) : Prop := H'.Sublist H
theorem RelS.sub {Γ : Cx} {R : Nat → Prop} {H H' : List HE} {W : World} (h : RelS Γ R H W) (hs : H'.Sublist H) : RelS Γ R H' W :=
  ⟨h.mods, h.rlt, h.rsub, h.rnew, fun e he => h.ok e (hs.subset he), fun e he => h.own e (hs.subset he), h.disj.sublist hs⟩
theorem Disj.symm {e f : HE} (h : Disj e f) : Disj f e := fun b hb hb' => h b hb' hb
theorem RelS.perm {Γ : Cx} {R : Nat → Prop} {H H' : List HE} {W : World} (h : RelS Γ R H W) (hs : H'.Perm H) : RelS Γ R H' W :=
  ⟨h.mods, h.rlt, h.rsub, h.rnew, fun e he => h.ok e (hs.subset he), fun e he => h.own e (hs.subset he), (hs.symm.pairwise_iff Disj.symm).1 h.disj⟩

end Go.Proofs.Ytjmkoelmiehdjaa.A

namespace Go.Proofs.Ytjmkoelmiehdjaa.A
open Go.RowKit L
set_option linter.unusedVariables false
set_option linter.unusedSimpArgs false

abbrev G (Γ : Cx) (E : Env) (H : List HE) (X : Act → World → Prop) : Prop := ∀ R a W, RelS Γ R H W → RelA Γ.N R W E a → X a W
def AW (Γ : Cx) (P : Program) (Q : Exit → Act → World → Prop) (c : Code) (E : Env) (H : List HE) : Prop := G Γ E H (c.wp P Q)
def AQ (Γ : Cx) (Q : Exit → Act → World → Prop) (x : Exit) (E : Env) (H : List HE) : Prop := G Γ E H (Q x)
def AO (Γ : Cx) (P : Program) (ops : Array Oper) (Q : Exit → Act → World → Prop) (l : List Oper) (E : Env) (H : List HE) : Prop := G Γ E H (wpList P ops Q l)

theorem AW.g {Γ : Cx} {P : Program} {Q : Exit → Act → World → Prop} {c : Code} {E : Env} {H : List HE} (h : G Γ E H (c.wp P Q)) : AW Γ P Q c E H := h
theorem AQ.g {Γ : Cx} {Q : Exit → Act → World → Prop} {x : Exit} {E : Env} {H : List HE} (h : G Γ E H (Q x)) : AQ Γ Q x E H := h
theorem AO.g {Γ : Cx} {P : Program} {ops : Array Oper} {Q : Exit → Act → World → Prop} {l : List Oper} {E : Env} {H : List HE} (h : G Γ E H (wpList P ops Q l)) : AO Γ P ops Q l E H := h
theorem AW.u {Γ : Cx} {P : Program} {Q : Exit → Act → World → Prop} {c : Code} {E : Env} {H : List HE} (h : AW Γ P Q c E H) : G Γ E H (c.wp P Q) := h
theorem AQ.u {Γ : Cx} {Q : Exit → Act → World → Prop} {x : Exit} {E : Env} {H : List HE} (h : AQ Γ Q x E H) : G Γ E H (Q x) := h
theorem AO.u {Γ : Cx} {P : Program} {ops : Array Oper} {Q : Exit → Act → World → Prop} {l : List Oper} {E : Env} {H : List HE} (h : AO Γ P ops Q l E H) : G Γ E H (wpList P ops Q l) := h

section
variable {Γ : Cx} {P : Program} {Q : Exit → Act → World → Prop} {E : Env} {H : List HE}

/-- What stands behind a piece of code, where it ends well. -/
def Then (P : Program) (c : Code) (Q : Exit → Act → World → Prop) : Exit → Act → World → Prop := Exit.then (fun a w => c.wp P Q a w) Q

theorem AW.seq {x y : Code} (h : AW Γ P (Then P y Q) x E H) : AW Γ P Q (.seq x y) E H := fun R a W hs ha => wp_seq (h R a W hs ha)
theorem AW.skip (h : AQ Γ Q .normal E H) : AW Γ P Q .skip E H := fun R a W hs ha => wp_skip (h R a W hs ha)
theorem AW.exit {i : Nat} (h : AQ Γ Q (.exit i) E H) : AW Γ P Q (.exit i) E H := fun R a W hs ha => wp_exit (h R a W hs ha)
theorem AW.ret (h : AQ Γ Q .ret E H) : AW Γ P Q .ret E H := fun R a W hs ha => wp_ret (h R a W hs ha)
theorem AW.block {i : Nat} {c : Code} (h : AW Γ P (Exit.inBlock i Q) c E H) : AW Γ P Q (.block i c) E H := fun R a W hs ha => wp_block (h R a W hs ha)
theorem AW.cond {c : Operand} {x y : Code} (b : Bool) (hc : ev E c = some (.val (.bool b))) (h1 : b = true → AW Γ P Q x E H) (h2 : b = false → AW Γ P Q y E H) : AW Γ P Q (.cond c x y) E H := fun R a W hs ha =>
  wp_cond_split (ha.ev hc).val_inv (fun hb => h1 hb R a W hs ha) (fun hb => h2 hb R a W hs ha)

theorem AQ.thenN {c : Code} (h : AW Γ P Q c E H) : AQ Γ (Then P c Q) .normal E H := h
theorem AQ.thenX {c : Code} {i : Nat} (h : AQ Γ Q (.exit i) E H) : AQ Γ (Then P c Q) (.exit i) E H := h
theorem AQ.thenR {c : Code} (h : AQ Γ Q .ret E H) : AQ Γ (Then P c Q) .ret E H := h
theorem AQ.blockN {i : Nat} (h : AQ Γ Q .normal E H) : AQ Γ (Exit.inBlock i Q) .normal E H := h
theorem AQ.blockX {i j : Nat} (hij : Nat.beq i j = true) (h : AQ Γ Q .normal E H) : AQ Γ (Exit.inBlock i Q) (.exit j) E H := fun R a W hs ha => by
  have := Nat.eq_of_beq_eq_true hij
  subst this
  show (if i = i then Q .normal a W else Q (.exit i) a W)
  rw [if_pos rfl]; exact h R a W hs ha
/-- A loop: a relation of the state, with a number that every round lowers. -/
def LoopQ (I : Nat → Env → List HE → Prop) (n : Nat) (Γ : Cx) (Q : Exit → Act → World → Prop) : Exit → Act → World → Prop :=
  Exit.then (fun a W => ∃ m E H R, m < n ∧ I m E H ∧ RelS Γ R H W ∧ RelA Γ.N R W E a) Q
theorem AW.loop {c : Code} (I : Nat → Env → List HE → Prop) (n : Nat) {E0 : Env} {H0 : List HE} (hI : I n E0 H0) (hE : ∀ p ∈ E0, look E p.1 = some p.2) (hH : ∃ H1, H1.Sublist H ∧ H0.Perm H1)
    (round : ∀ n E H, I n E H → AW Γ P (LoopQ I n Γ Q) c E H) : AW Γ P Q (.loop c) E H := fun R a W hs ha => by
  have hmem : ∀ {E : Env} {t : Nat} {v : AV}, look E t = some v → (t, v) ∈ E := by
    intro E
    induction E with
    | nil => intro t v h; cases h
    | cons p r ih =>
      intro t v h
      unfold look at h
      cases hb : Nat.beq p.1 t with
      | true => rw [hb] at h; simp at h; subst h; have := Nat.eq_of_beq_eq_true hb; subst this; exact List.mem_cons_self ..
      | false => rw [hb] at h; exact List.mem_cons_of_mem _ (ih h)
  obtain ⟨H1, h1, h2⟩ := hH
  refine wp_loop_ghost (fun n a W => ∃ E H R, I n E H ∧ RelS Γ R H W ∧ RelA Γ.N R W E a) n ⟨E0, H0, R, hI, (hs.sub h1).perm h2, ⟨ha.defers, ha.size, fun t v ht => ha.slots t v (hE _ (hmem ht))⟩⟩ ?_
  rintro n a W ⟨E, H, R, hI, hs, ha⟩
  refine wp_mono (round n E H hI R a W hs ha) ?_
  intro e a w h
  cases e with
  | normal => obtain ⟨m, E', H', R', h1, h2, h3, h4⟩ := h; exact ⟨m, h1, E', H', R', h2, h3, h4⟩
  | _ => exact h
theorem AQ.loopN {I : Nat → Env → List HE → Prop} {n : Nat} (m : Nat) (E0 : Env) (H0 : List HE) (hm : m < n) (hI : I m E0 H0) (hE : ∀ p ∈ E0, look E p.1 = some p.2) (hH : ∃ H1, H1.Sublist H ∧ H0.Perm H1) : AQ Γ (LoopQ I n Γ Q) .normal E H := fun R a W hs ha => by
  have hmem : ∀ {E : Env} {t : Nat} {v : AV}, look E t = some v → (t, v) ∈ E := by
    intro E
    induction E with
    | nil => intro t v h; cases h
    | cons p r ih =>
      intro t v h
      unfold look at h
      cases hb : Nat.beq p.1 t with
      | true => rw [hb] at h; simp at h; subst h; have := Nat.eq_of_beq_eq_true hb; subst this; exact List.mem_cons_self ..
      | false => rw [hb] at h; exact List.mem_cons_of_mem _ (ih h)
  obtain ⟨H1, h1, h2⟩ := hH
  exact ⟨m, E0, H0, R, hm, hI, (hs.sub h1).perm h2, ⟨ha.defers, ha.size, fun t v ht => ha.slots t v (hE _ (hmem ht))⟩⟩
theorem AQ.loopX {I : Nat → Env → List HE → Prop} {n i : Nat} (h : AQ Γ Q (.exit i) E H) : AQ Γ (LoopQ I n Γ Q) (.exit i) E H := h
/-! ### Operations -/

def Is (v : AV) : AV → List HE → Prop := fun v' Hn => v' = v ∧ Hn = []

/-- One operation, in whatever world: what it yields, and what it makes. -/
def OpW (P : Program) (N : Nat) (o : Oper) (E : Env) (H : List HE) (Φ : AV → List HE → Prop) : Prop :=
  ∀ R a W, (∀ b, R b → b < W.heap.size) → (∀ e ∈ H, e.ok R W) → (∀ e ∈ H, ∀ b, e.foot b → ¬ R b) → RelA N R W E a →
    o.wp P a W (fun A' W' => ∃ u v Hn R', A' = a.put o.dst u ∧ Φ v Hn ∧ Post1 R W v Hn u W' R') NoQ

def wantedIs (ops : Array Oper) (E : Env) (o : Oper) : Option Bool :=
  match o.guard with
  | none => some true
  | some (g, want) => match (ops[g]?).bind (·.dst) with
    | some t => match look E t with
      | some (.val (.bool c)) => some (c == want)
      | _ => none
    | none => none

theorem wanted_is {ops : Array Oper} {N : Nat} {R : Nat → Prop} {W : World} {a : Act} {o : Oper} {c : Bool} (ha : RelA N R W E a) (h : wantedIs ops E o = some c) : Region.wanted o (yielded ops a.tmps) = c := by
  unfold wantedIs at h
  unfold Region.wanted
  cases hg : o.guard with
  | none => rw [hg] at h; simpa using h
  | some gw =>
    obtain ⟨g, want⟩ := gw
    rw [hg] at h
    simp only at h ⊢
    cases ht : (ops[g]?).bind (·.dst) with
    | none => rw [ht] at h; cases h
    | some t =>
      rw [ht] at h
      simp only at h
      split at h
      · rename_i b hl
        have hv := (ha.slots t _ hl).val_inv
        have hy : yielded ops a.tmps g = some b := by
          unfold yielded
          rw [ht]
          have : a.tmps[t]? = some (.bool b) := by
            simp only [Act.eval, Array.getD] at hv
            split at hv
            · rename_i h; simp [h]; exact hv
            · cases hv
          simp [this]
        rw [hy]
        cases h
        cases b <;> cases want <;> rfl
      · cases h

variable {ops : Array Oper} {rest : List Oper} {o : Oper} {N : Nat}

theorem AO.nil (h : AQ Γ Q .normal E H) : AO Γ P ops Q [] E H := h

/-- One operation, run or left out. -/
def OpF (P : Program) (N : Nat) (ops : Array Oper) (o : Oper) (E : Env) (H : List HE) (Φ : AV → List HE → Prop) : Prop :=
  ∀ R a W, (∀ b, R b → b < W.heap.size) → (∀ e ∈ H, e.ok R W) → (∀ e ∈ H, ∀ b, e.foot b → ¬ R b) → RelA N R W E a →
    FStep P ops o a W (fun u W' => ∃ v Hn R', Φ v Hn ∧ Post1 R W v Hn u W' R')

theorem OpF.run {Φ : AV → List HE → Prop} (hw : wantedIs ops E o = some true) (h : OpW P N o E H Φ) : OpF P N ops o E H Φ := fun R a W h1 h2 h3 h4 => by
  unfold FStep
  rw [if_pos (wanted_is h4 hw)]
  refine Oper.wp_mono ?_ (h R a W h1 h2 h3 h4)
  rintro A' W' ⟨u, v, Hn, R', rfl, h5, h6⟩
  exact ⟨u, rfl, v, Hn, R', h5, h6⟩
theorem Post1.undef {R : Nat → Prop} {W : World} {v : AV} (hv : RelV R W v undef) : Post1 R W v [] undef W R :=
  ⟨Mods.refl _ _, fun _ h => h, fun _ h => .inl h, hv, fun _ he => (by cases he), .nil⟩
theorem OpF.no (hw : wantedIs ops E o = some false) : OpF P N ops o E H (Is (.val undef)) := fun R a W h1 h2 h3 h4 => by
  unfold FStep
  rw [if_neg (by rw [wanted_is h4 hw]; simp)]
  exact ⟨_, [], R, ⟨rfl, rfl⟩, Post1.undef (.val _)⟩

/-- When a guarded operation runs. -/
def guardIs (ops : Array Oper) (E : Env) (o : Oper) : Option Bool :=
  match o.guard with
  | none => none
  | some (g, want) => match (ops[g]?).bind (·.dst) with
    | some t => match look E t with
      | some (.val (.bool p)) => some (bif want then p else !p)
      | some (.opt q (.val (.bool p))) => some (q && (bif want then p else !p))
      | _ => none
    | none => none
theorem guard_is {R : Nat → Prop} {W : World} {a : Act} {c : Bool} (ha : RelA N R W E a) (h : guardIs ops E o = some c) : Region.wanted o (yielded ops a.tmps) = c := by
  unfold guardIs at h
  unfold Region.wanted
  cases hg : o.guard with
  | none => rw [hg] at h; cases h
  | some gw =>
    obtain ⟨g, want⟩ := gw
    rw [hg] at h
    simp only at h ⊢
    cases ht : (ops[g]?).bind (·.dst) with
    | none => rw [ht] at h; cases h
    | some t =>
      rw [ht] at h
      simp only at h
      have hy : ∀ b, a.eval (.tmp t) = .bool b → yielded ops a.tmps g = some b := fun b hv => by
        unfold yielded
        rw [ht]
        have : a.tmps[t]? = some (.bool b) := by
          simp only [Act.eval, Array.getD] at hv
          split at hv
          · rename_i h; simp [h]; exact hv
          · cases hv
        simp [this]
      have hn : a.eval (.tmp t) = undef → yielded ops a.tmps g = none := fun hv => by
        unfold yielded
        rw [ht]
        simp only [Act.eval, Array.getD] at hv
        split at hv
        · rename_i h
          have : a.tmps[t]? = some undef := by simp [h]; exact hv
          simp [this, undef]
        · rename_i h
          have : a.tmps[t]? = none := by simp; omega
          simp [this]
      split at h
      · rename_i b hl
        rw [hy b (ha.slots t _ hl).val_inv]
        cases h
        cases b <;> cases want <;> rfl
      · rename_i q b hl
        obtain ⟨h1, h2⟩ := (ha.slots t _ hl).opt_inv
        cases q
        · rw [hn (h2 rfl)]
          cases h
          rfl
        · rw [hy b (h1 rfl).val_inv]
          cases h
          cases b <;> cases want <;> rfl
      · cases h
theorem OpF.opt {c : Bool} {v : AV} (hw : guardIs ops E o = some c) (h : c = true → OpW P N o E H (Is v)) : OpF P N ops o E H (Is (.opt c v)) := fun R a W h1 h2 h3 h4 => by
  unfold FStep
  rw [guard_is h4 hw]
  cases c
  · exact ⟨_, [], R, ⟨rfl, rfl⟩, Post1.undef (.opt _ _ _ (fun h => by cases h) (fun _ => rfl))⟩
  · refine Oper.wp_mono ?_ (h rfl R a W h1 h2 h3 h4)
    rintro A' W' ⟨u, v', Hn, R', rfl, ⟨rfl, rfl⟩, h6⟩
    exact ⟨u, rfl, _, [], R', ⟨rfl, rfl⟩, ⟨h6.ext, h6.sub, h6.new, .opt _ _ _ (fun _ => h6.val) (fun h => by cases h), h6.ok, h6.disj⟩⟩

theorem OpW.force {Φ : AV → List HE → Prop} (t : Nat) {c : Bool} {x : AV} (ht : look E t = some (.opt c x)) (hc : c = true) (h : OpW P N o ((t, x) :: E) H Φ) : OpW P N o E H Φ := fun R a W h1 h2 h3 h4 =>
  h R a W h1 h2 h3 ⟨h4.defers, h4.size, fun s v hs => by
    unfold look at hs
    cases hb : Nat.beq t s with
    | true => rw [hb] at hs; cases hs; have := Nat.eq_of_beq_eq_true hb; subst this; exact (h4.slots t _ ht).opt_inv.1 hc
    | false => rw [hb] at hs; exact h4.slots s v hs⟩

theorem AO.opF {d : Nat} {Φ : AV → List HE → Prop} (h : OpF P Γ.N ops o E H Φ) (hd : o.dst = some d) (hN : d < Γ.N) (k : ∀ v Hn, Φ v Hn → AO Γ P ops Q rest ((d, v) :: E) (Hn ++ H)) :
    AO Γ P ops Q (o :: rest) E H := fun R a W hs ha => by
  have := h R a W hs.rlt hs.ok (fun e he b hb => (hs.own e he b hb).2) ha
  unfold FStep at this
  unfold wpList
  split
  · rename_i hw
    rw [if_pos hw] at this
    refine .inl (wp_of_noQ (Oper.wp_mono ?_ this))
    rintro A' W' ⟨u, rfl, v, Hn, R', hΦ, hp⟩
    rw [hd]
    exact k v Hn hΦ R' _ W' (hs.step hp) ((ha.mono hp.sub (extSame hp.ext hs.rlt)).put hN hp.val)
  · rename_i hw
    rw [if_neg hw] at this
    obtain ⟨v, Hn, R', hΦ, hp⟩ := this
    rw [hd]
    exact k v Hn hΦ R' _ W (hs.step hp) ((ha.mono hp.sub (extSame hp.ext hs.rlt)).put hN hp.val)
theorem AO.opN {d : Nat} {Φ : AV → List HE → Prop} (h : OpW P Γ.N o E H Φ) (hw : wantedIs ops E o = some true) (hd : o.dst = some d) (hN : Nat.ble (d + 1) Γ.N = true) (k : ∀ v Hn, Φ v Hn → AO Γ P ops Q rest ((d, v) :: E) (Hn ++ H)) :
    AO Γ P ops Q (o :: rest) E H := AO.opF (.run hw h) hd (Nat.le_of_ble_eq_true hN) k
theorem AO.op {d : Nat} {v : AV} (h : OpW P Γ.N o E H (Is v)) (hw : wantedIs ops E o = some true) (hd : o.dst = some d) (hN : Nat.ble (d + 1) Γ.N = true) (k : AO Γ P ops Q rest ((d, v) :: E) H) :
    AO Γ P ops Q (o :: rest) E H := AO.opN h hw hd hN (by rintro _ _ ⟨rfl, rfl⟩; exact k)
/-- A guarded operation, whose guard is not known. -/
theorem AO.opG {d : Nat} {c : Bool} {v : AV} (hw : guardIs ops E o = some c) (hd : o.dst = some d) (hN : Nat.ble (d + 1) Γ.N = true) (h : c = true → OpW P Γ.N o E H (Is v)) (k : AO Γ P ops Q rest ((d, .opt c v) :: E) H) :
    AO Γ P ops Q (o :: rest) E H := AO.opF (.opt hw h) hd (Nat.le_of_ble_eq_true hN) (by rintro _ _ ⟨rfl, rfl⟩; exact k)
theorem AO.no {d : Nat} (hw : wantedIs ops E o = some false) (hd : o.dst = some d) (hN : Nat.ble (d + 1) Γ.N = true) (k : AO Γ P ops Q rest ((d, .val undef) :: E) H) : AO Γ P ops Q (o :: rest) E H :=
  AO.opF (.no hw) hd (Nat.le_of_ble_eq_true hN) (by rintro _ _ ⟨rfl, rfl⟩; exact k)

theorem AW.region {id : Nat} {l : List Oper} (h : AO Γ P l.toArray Q l E H) : AW Γ P Q (.region id l.toArray false) E H := fun R a W hs ha => wp_region_lit (h R a W hs ha)

theorem Post1.same {R : Nat → Prop} {W : World} {v : AV} {u : Value} (hR : ∀ b, R b → b < W.heap.size) (h : RelV R W v u) : Post1 R W v [] u W R :=
  ⟨Mods.refl _ _, fun _ h => h, fun _ h => .inl h, h, fun _ he => (by cases he), .nil⟩

theorem OpW.of_run {v : AV} (h : ∀ R a W, (∀ b, R b → b < W.heap.size) → (∀ e ∈ H, e.ok R W) → RelA N R W E a → ∃ u, (execOp a.eval o).run P W = .ok (.value u) W ∧ RelV R W v u) : OpW P N o E H (Is v) := fun R a W h1 h2 h3 h4 => by
  obtain ⟨u, hr, hv⟩ := h R a W h1 h2 h4
  unfold Oper.wp
  rw [hr]
  exact ⟨u, v, [], R, rfl, ⟨rfl, rfl⟩, Post1.same h1 hv⟩

end
end Go.Proofs.Ytjmkoelmiehdjaa.A

namespace Go.Proofs.Ytjmkoelmiehdjaa.A
open Go.RowKit L
set_option linter.unusedVariables false
set_option linter.unusedSimpArgs false

class TyD (P : Program) (T : Nat) (d : outParam TypeDesc) : Prop where
  ax : P.underlying T = some d
class TyN (P : Program) (T : Nat) (k bs : outParam Nat) (z : outParam Value) : Prop where
  ax : ∃ i, P.info? T = some i ∧ i.size = k ∧ i.bytes = bs ∧ i.zero = some z
/-- A type of one cell, or of several. -/
class TyG (P : Program) (T : Nat) (g : outParam Bool) (k : outParam Nat) : Prop where
  ax : ∃ d i, P.underlying T = some d ∧ P.info? T = some i ∧ i.size = k ∧ (match d with | .struct _ | .array _ _ => true | _ => false) = g
class TyS (P : Program) (T : Nat) (U k bs : outParam Nat) (z : outParam Value) : Prop where
  ty : P.underlying T = some (.slice U)
  el : ∃ i, P.info? U = some i ∧ i.size = k ∧ i.bytes = bs ∧ i.zero = some z
class TyL (P : Program) (T : Nat) (n k : outParam Nat) : Prop where
  ax : ∃ U i, P.underlying T = some (.array n U) ∧ P.info? U = some i ∧ i.size = k
class TyF (P : Program) (T f : Nat) (off : outParam Nat) : Prop where
  ax : ∃ fs fld i, P.underlying T = some (.struct fs) ∧ fs[f]? = some fld ∧ fld.offset = off ∧ P.info? fld.type = some i ∧ i.size ≠ 0

section
variable {P : Program} {E : Env} {H : List HE} {N : Nat} {o : Oper}

theorem O.move {x : Operand} {v : AV} (ho : o.op = .move x) (hx : ev E x = some v) : OpW P N o E H (Is v) := .of_run fun R a W h1 h2 ha =>
  ⟨a.eval x, by simp only [execOp, ho]; rfl, ha.ev hx⟩
theorem O.assign {x : Operand} {v : AV} (ho : o.op = .assign x) (hx : ev E x = some v) : OpW P N o E H (Is v) := .of_run fun R a W h1 h2 ha =>
  ⟨a.eval x, by simp only [execOp, ho]; rfl, ha.ev hx⟩
/-- 'c && x', 'c || x': x was run only if it was asked. -/
theorem O.pickAnd {c x y : Operand} {p q z : Bool} (ho : o.op = .pick c x y) (hc : ev E c = some (.val (.bool p))) (hx : ev E x = some (.opt q (.val (.bool z)))) (hy : ev E y = some (.val (.bool false))) (hq : p = true → q = true) : OpW P N o E H (Is (.val (.bool (p && z)))) := .of_run fun R a W h1 h2 ha =>
  ⟨.bool (p && z), by
    cases p
    · simp only [execOp, ho, (ha.ev hc).val_inv, (ha.ev hy).val_inv]; rfl
    · simp only [execOp, ho, (ha.ev hc).val_inv, ((ha.ev hx).opt_inv.1 (hq rfl)).val_inv]; rfl, .val _⟩
theorem O.pickOr {c x y : Operand} {p q z : Bool} (ho : o.op = .pick c x y) (hc : ev E c = some (.val (.bool p))) (hx : ev E x = some (.val (.bool true))) (hy : ev E y = some (.opt q (.val (.bool z)))) (hq : p = false → q = true) : OpW P N o E H (Is (.val (.bool (p || z)))) := .of_run fun R a W h1 h2 ha =>
  ⟨.bool (p || z), by
    cases p
    · simp only [execOp, ho, (ha.ev hc).val_inv, ((ha.ev hy).opt_inv.1 (hq rfl)).val_inv]; rfl
    · simp only [execOp, ho, (ha.ev hc).val_inv, (ha.ev hx).val_inv]; rfl, .val _⟩

theorem O.bin {op : BinOp} {T T' : Nat} {x y : Operand} {u w : Value} {v : Value} (ho : o.op = .binOp op T x y T') (hx : ev E x = some (.val u)) (hy : ev E y = some (.val w))
    (hr : ∀ W, (do eqGuard op T x y u w; binOp op T u w : Sem Value).run P W = .ok v W) : OpW P N o E H (Is (.val v)) := .of_run fun R a W h1 h2 ha =>
  ⟨v, by
    simp only [execOp, ho, (ha.ev hx).val_inv, (ha.ev hy).val_inv]
    rw [Sem.run_bind, hr W]; rfl, .val _⟩
theorem O.binI {op : BinOp} {T T' : Nat} {x y : Operand} {k : IntKind} {p q : Int} {v : Value} (ho : o.op = .binOp op T x y T') (hx : ev E x = some (.val (.int k p))) (hy : ev E y = some (.val (.int k q)))
    (hr : ∀ W, (binOp op T (.int k p) (.int k q)).run P W = .ok v W) : OpW P N o E H (Is (.val v)) := O.bin ho hx hy fun W => by
  have : (eqGuard op T x y (.int k p) (.int k q)).run P W = .ok () W := by
    unfold eqGuard; split <;> rfl
  rw [Sem.run_bind, this]; exact hr W
theorem O.add {T T' : Nat} {x y : Operand} {k : IntKind} {p q c : Int} (ho : o.op = .binOp .add T x y T') (hx : ev E x = some (.val (.int k p))) (hy : ev E y = some (.val (.int k q))) (hc : k.wrap (p + q) = c) :
    OpW P N o E H (Is (.val (.int k c))) := O.binI ho hx hy fun W => by simp [binOp, Op.intArith, hc]
theorem O.sub {T T' : Nat} {x y : Operand} {k : IntKind} {p q c : Int} (ho : o.op = .binOp .sub T x y T') (hx : ev E x = some (.val (.int k p))) (hy : ev E y = some (.val (.int k q))) (hc : k.wrap (p - q) = c) :
    OpW P N o E H (Is (.val (.int k c))) := O.binI ho hx hy fun W => by simp [binOp, Op.intArith, hc]
theorem O.quo {T T' : Nat} {x y : Operand} {k : IntKind} {p q c : Int} (ho : o.op = .binOp .quo T x y T') (hx : ev E x = some (.val (.int k p))) (hy : ev E y = some (.val (.int k q))) (h0 : q ≠ 0) (hc : k.wrap (p.tdiv q) = c) :
    OpW P N o E H (Is (.val (.int k c))) := O.binI ho hx hy fun W => by simp [binOp, Op.intDiv, hc, h0]
theorem O.rem {T T' : Nat} {x y : Operand} {k : IntKind} {p q c : Int} (ho : o.op = .binOp .rem T x y T') (hx : ev E x = some (.val (.int k p))) (hy : ev E y = some (.val (.int k q))) (h0 : q ≠ 0) (hc : p.tmod q = c) :
    OpW P N o E H (Is (.val (.int k c))) := O.binI ho hx hy fun W => by simp [binOp, Op.intDiv, hc, h0]
theorem O.lss {T T' : Nat} {x y : Operand} {k : IntKind} {p q : Int} {c : Bool} (ho : o.op = .binOp .lss T x y T') (hx : ev E x = some (.val (.int k p))) (hy : ev E y = some (.val (.int k q))) (hc : decide (p < q) = c) :
    OpW P N o E H (Is (.val (.bool c))) := O.binI ho hx hy fun W => by simp [binOp, Op.intCmp, ← hc]
theorem O.leq {T T' : Nat} {x y : Operand} {k : IntKind} {p q : Int} {c : Bool} (ho : o.op = .binOp .leq T x y T') (hx : ev E x = some (.val (.int k p))) (hy : ev E y = some (.val (.int k q))) (hc : decide (p ≤ q) = c) :
    OpW P N o E H (Is (.val (.bool c))) := O.binI ho hx hy fun W => by simp [binOp, Op.intCmp, ← hc]
theorem O.gtr {T T' : Nat} {x y : Operand} {k : IntKind} {p q : Int} {c : Bool} (ho : o.op = .binOp .gtr T x y T') (hx : ev E x = some (.val (.int k p))) (hy : ev E y = some (.val (.int k q))) (hc : decide (q < p) = c) :
    OpW P N o E H (Is (.val (.bool c))) := O.binI ho hx hy fun W => by simp [binOp, Op.intCmp, ← hc]
theorem O.eql {T T' : Nat} {x y : Operand} {k : IntKind} {p q : Int} {c : Bool} (ho : o.op = .binOp .eql T x y T') (hx : ev E x = some (.val (.int k p))) (hy : ev E y = some (.val (.int k q))) (hc : (p == q) = c) :
    OpW P N o E H (Is (.val (.bool c))) := O.binI ho hx hy fun W => by simp [binOp, Op.intCmp, ← hc]
theorem O.neq {T T' : Nat} {x y : Operand} {k : IntKind} {p q : Int} {c : Bool} (ho : o.op = .binOp .neq T x y T') (hx : ev E x = some (.val (.int k p))) (hy : ev E y = some (.val (.int k q))) (hc : (p != q) = c) :
    OpW P N o E H (Is (.val (.bool c))) := O.binI ho hx hy fun W => by simp [binOp, Op.intCmp, ← hc]
theorem O.shl {T T' : Nat} {x y : Operand} {k k' : IntKind} {p q c : Int} (ho : o.op = .binOp .shl T x y T') (hx : ev E x = some (.val (.int k p))) (hy : ev E y = some (.val (.int k' q))) (h0 : 0 ≤ q) (hc : k.wrap (p * 2 ^ (min q.toNat k.bits)) = c) :
    OpW P N o E H (Is (.val (.int k c))) := O.bin ho hx hy fun W => by
  have : ¬ q < 0 := by omega
  simp [eqGuard, binOp, Op.shift, this, hc]
theorem O.bits {op : BinOp} {T T' : Nat} {x y : Operand} {k : IntKind} {p q c : Int} (ho : o.op = .binOp op T x y T') (hop : (match op with | .and | .or | .xor | .andNot => true | _ => false) = true) (hx : ev E x = some (.val (.int k p))) (hy : ev E y = some (.val (.int k q)))
    (hc : ∀ W, (Op.intBits op k p q).run P W = .ok (.int k c) W) : OpW P N o E H (Is (.val (.int k c))) := O.binI ho hx hy fun W => by
  cases op <;> first | (cases hop; done) | (simp [binOp]; exact hc W)
theorem O.not {T : Nat} {x : Operand} {p c : Bool} (ho : o.op = .unOp .not T x) (hx : ev E x = some (.val (.bool p))) (hc : (!p) = c) : OpW P N o E H (Is (.val (.bool c))) := .of_run fun R a W h1 h2 ha =>
  ⟨.bool c, by simp [execOp, ho, (ha.ev hx).val_inv, Op.unary, hc], .val _⟩
theorem O.extract {x : Operand} {i : Nat} {vs : List AV} {v : AV} (ho : o.op = .extract x i) (hx : ev E x = some (.tup vs)) (hv : vs[i]? = some v) : OpW P N o E H (Is v) := .of_run fun R a W h1 h2 ha => by
  obtain ⟨us, hu, hl⟩ := (ha.ev hx).tup_inv
  obtain ⟨u, h3, h4⟩ := hl.get hv
  exact ⟨u, by simp [execOp, ho, hu, Instr.extract, h3], h4⟩
theorem O.lenR {x : Operand} {T : Nat} {full : Bool} {n : Nat} {xs : List AV} {d : TypeId} [TyD P T (.slice d)] (ho : o.op = .call { callee := .builtin .len, args := #[x], argTypes := #[T] }) (hx : ev E x = some (.ro full n xs)) :
    OpW P N o E H (Is (.val (.int .i64 n))) := .of_run fun R a W h1 h2 ha => by
  have := ha.ev hx
  generalize hu : a.eval x = u at *
  have ht := run_underlying (TyD.ax (P := P) (T := T))
  cases this with
  | emp _ ad cap h3 h4 => exact ⟨_, by simp [execOp, ho, hu, resolve, invoke, builtin, Builtin.len_, ht, goInt], .val _⟩
  | ro _ _ _ b off cap us hb hc hr h3 h4 h5 => exact ⟨_, by simp [execOp, ho, hu, resolve, invoke, builtin, Builtin.len_, ht, goInt], .val _⟩
theorem addr_add (b off n : Nat) : (⟨b, off, none⟩ : Addr).add n = ⟨b, off + n, none⟩ := by
  unfold Addr.add; split <;> simp_all

theorem O.fieldAddr {T f : Nat} {x : Operand} {b off k : Nat} [hf : TyF P T f k] (ho : o.op = .fieldAddr T x f) (hx : ev E x = some (.val (.pointer (some ⟨b, off, none⟩)))) : OpW P N o E H (Is (.val (.pointer (some ⟨b, off + k, none⟩)))) := .of_run fun R a W h1 h2 ha => by
  obtain ⟨fs, fld, i, hu, hfl, hoff, hi, h0⟩ := hf.ax
  exact ⟨_, by simp [execOp, ho, (ha.ev hx).val_inv, Instr.fieldAt, run_underlying hu, hfl, Instr.sureAddr, fieldPlace, sizeOf, typeInfo, hi, h0, hoff, addr_add], .val _⟩
theorem O.idxR {T : Nat} {x y : Operand} {full : Bool} {n : Nat} {xs : List AV} {k : IntKind} {z : Int} {U sz bs : Nat} {zz : Value} [hs : TyS P T U sz bs zz] (ho : o.op = .indexAddr T x y) (hx : ev E x = some (.ro full n xs)) (hy : ev E y = some (.val (.int k z))) (hz : 0 ≤ z ∧ z < n) :
    OpW P N o E H (Is (.rp xs (z.toNat * sz))) := .of_run fun R a W h1 h2 ha => by
  obtain ⟨i, hi, hi2, -⟩ := hs.el
  have := ha.ev hx
  generalize hv : a.eval x = v at *
  cases this with
  | emp _ ad cap h3 h4 => simp at hz; omega
  | ro _ _ _ b off cap us hb hc hr h3 h4 h5 =>
    refine ⟨_, ?_, .rp xs (z.toNat * sz) b off us hb hc hr⟩
    have h9 : ¬ ((n : Int) ≤ 1 ∧ False) := by simp
    simp [execOp, ho, hv, (ha.ev hy).val_inv, Instr.indexAt, asIntOf, run_underlying hs.ty, sizeOf, typeInfo, hi, hi2, hz, addr_add]
theorem run_loadVar1 {T k : Nat} (h : TyG P T false k) (W : World) (ad : Addr) (u : Value) (hu : W.cell? ad = some u) : (loadVar T ad).run P W = .ok u W := by
  obtain ⟨d, i, hd, hi, hk, hg⟩ := h.ax
  have : (isAgg T).run P W = .ok false W := by
    unfold isAgg
    rw [Sem.run_bind, run_underlying hd W]
    cases d <;> simp_all
  simp [loadVar, this, hu]
theorem run_loadVarK {T k : Nat} (h : TyG P T true k) (W : World) (b off : Nat) (us : List Value) (hl : us.length = k) (hu : ∀ j u, us[j]? = some u → W.cell? ⟨b, off + j, none⟩ = some u) : (loadVar T ⟨b, off, none⟩).run P W = .ok (.agg us.toArray) W := by
  obtain ⟨d, i, hd, hi, hk, hg⟩ := h.ax
  have : (isAgg T).run P W = .ok true W := by
    unfold isAgg
    rw [Sem.run_bind, run_underlying hd W]
    cases d <;> simp_all
  have hc := run_loadCells_list (P := P) W ⟨b, off, none⟩ us (fun j v hv => by rw [addr_add]; exact hu j v hv)
  rw [hl] at hc
  simp [loadVar, this, sizeOf, typeInfo, hi, hk, hc]

theorem O.loadR {T : Nat} {x : Operand} {xs : List AV} {j k : Nat} {v : AV} [hg : TyG P T false k] (ho : o.op = .load T x) (hx : ev E x = some (.rp xs j)) (hv : xs[j]? = some v) : OpW P N o E H (Is v) := .of_run fun R a W h1 h2 ha => by
  obtain ⟨hj, rfl⟩ := List.getElem?_eq_some_iff.1 hv
  have := ha.ev hx
  generalize hu : a.eval x = u at *
  cases this with
  | rp _ _ b off us hb hc hr =>
    refine ⟨us j, ?_, hr j hj⟩
    simp [execOp, ho, hu, Instr.loadAt, Instr.sureAddr, run_loadVar1 hg W _ _ (hc j hj)]
theorem blk_cell {R : Nat → Prop} {W : World} {b T room : Nat} {xs : List AV} (h : HE.ok R W (.blk b T room xs)) {j : Nat} {v : AV} (hv : xs[j]? = some v) : ∃ u, W.cell? ⟨b, j, none⟩ = some u ∧ RelV R W v u := by
  obtain ⟨us, cs, hb, hs, ht, hr⟩ := h
  obtain ⟨u, h1, h2⟩ := hr.get hv
  refine ⟨u, ?_, h2⟩
  rw [cell_of_row W b j cs T (0, 0) hb]
  rw [← ht, List.getElem?_take] at h1
  split at h1
  · simpa using h1
  · cases h1

theorem O.load {T : Nat} {x : Operand} {b j k : Nat} {v : AV} {T' room : Nat} {xs : List AV} [hg : TyG P T false k] (ho : o.op = .load T x) (hx : ev E x = some (.val (.pointer (some ⟨b, j, none⟩)))) (hm : HE.blk b T' room xs ∈ H) (hv : xs[j]? = some v) : OpW P N o E H (Is v) := .of_run fun R a W h1 h2 ha => by
  obtain ⟨u, h3, h4⟩ := blk_cell (h2 _ hm) hv
  exact ⟨u, by simp [execOp, ho, (ha.ev hx).val_inv, Instr.loadAt, Instr.sureAddr, run_loadVar1 hg W _ _ h3], h4⟩
theorem O.loadK {T : Nat} {x : Operand} {b j k : Nat} {ys : List AV} {T' room : Nat} {xs : List AV} [hg : TyG P T true k] (ho : o.op = .load T x) (hx : ev E x = some (.val (.pointer (some ⟨b, j, none⟩)))) (hm : HE.blk b T' room xs ∈ H) (hv : (xs.drop j).take k = ys) (hk : ys.length = k) : OpW P N o E H (Is (.agg ys)) := .of_run fun R a W h1 h2 ha => by
  obtain ⟨us, cs, hb, hs, ht, hr⟩ := h2 _ hm
  have hrl := (hr.drop j).take k
  rw [hv] at hrl
  refine ⟨_, ?_, hrl.toAgg⟩
  have hl := run_loadVarK hg W b j ((us.drop j).take k) (by rw [hrl.1, hk]) (fun i u hi => by
    rw [cell_of_row W b (j + i) cs T' (0, 0) hb]
    rw [List.getElem?_take] at hi
    split at hi
    · rw [List.getElem?_drop, ← ht, List.getElem?_take] at hi
      split at hi
      · simpa using hi
      · cases hi
    · cases hi)
  simp only [execOp, ho, (ha.ev hx).val_inv, Instr.loadAt, Instr.sureAddr, Sem.run_bind, Sem.run_pure, Result.andThen_ok, hl]

theorem O.fn {f : Fn} {cap : List Operand} {vs : List AV} (ho : o.op = .makeFunc f #[] cap.toArray) (hx : evs E cap = some vs) : OpW P N o E H (Is (.fn f vs)) := .of_run fun R a W h1 h2 ha =>
  ⟨_, by simp [execOp, ho, Instr.makeFunc], (ha.evs hx).toFn⟩

end
end Go.Proofs.Ytjmkoelmiehdjaa.A

namespace Go.Proofs.Ytjmkoelmiehdjaa.A
open Go.RowKit L
set_option linter.unusedVariables false
set_option linter.unusedSimpArgs false

theorem relL_vals (R : Nat → Prop) (W : World) (us : List Value) : RelL R W (us.map .val) us := ⟨by simp, fun j hj => by
  have hj' : j < us.length := by simpa using hj
  have : us.getD j undef = us[j] := by simp [List.getD, hj']
  rw [List.getElem_map, this]; exact .val _⟩

theorem RelL.all_one {R : Nat → Prop} {W : World} {xs : List AV} {us : List Value} (h : RelL R W xs us) (h1 : xs.all AV.one = true) : ∀ u ∈ us, u.oneCell' = true := by
  intro u hu
  obtain ⟨j, hj, rfl⟩ := List.getElem_of_mem hu
  have hj' : j < xs.length := by rw [← h.1]; exact hj
  have := h.2 j hj'
  rw [show us.getD j undef = us[j] by simp [List.getD, hj]] at this
  exact this.one (List.all_eq_true.1 h1 _ (List.getElem_mem hj'))

/-- A new block. -/
theorem post1_new {R : Nat → Prop} {W : World} (hR : ∀ b, R b → b < W.heap.size) (T : TypeId) (cs : Array Value) (room : Nat) (xs : List AV) (hr : cs.size = room) (hx : RelL R W xs (cs.toList.take xs.length)) {v : AV} {u : Value}
    (hv : ∀ R W, RelV R W v u) : Post1 R W v [.blk W.heap.size T room xs] u (W.alloc (.cells cs T)) R := by
  have hs : ∀ b, R b → (W.alloc (.cells cs T)).heap[b]? = W.heap[b]? := fun b hb => Below.heap_alloc W _ b (hR b hb)
  refine ⟨Mods.alloc (Mods.refl _ _) _, fun _ h => h, fun _ h => .inl h, hv _ _, ?_, by simp⟩
  intro e he
  obtain rfl : e = _ := by simpa using he
  refine ⟨⟨_, cs, heap_alloc_new W _, hr, rfl, hx.mono (fun _ h => h) hs⟩, fun b hb => ?_⟩
  cases hb
  exact ⟨Nat.le_refl _, fun h => by have := hR _ h; omega⟩

section
variable {Γ : Cx} {P : Program} {Q : Exit → Act → World → Prop} {E : Env} {H : List HE} {N : Nat} {o : Oper} {ops : Array Oper} {rest : List Oper}

def NewBlk (v : Nat → AV) (T room : Nat) (xs : List AV) : AV → List HE → Prop := fun v' Hn => ∃ b, v' = v b ∧ Hn = [.blk b T room xs]

theorem O.alloc {T k bs : Nat} {z : Value} {xs : List AV} [hn : TyN P T k bs z] (ho : o.op = .alloc T) (hx : z.cells.toList.map AV.val = xs) (hk : z.cells.size = k) :
    OpW P N o E H (NewBlk (fun b => .val (.pointer (some ⟨b, 0, none⟩))) T k xs) := fun R a W h1 h2 h3 ha => by
  obtain ⟨i, hi, hik, hib, hiz⟩ := hn.ax
  have hr : (execOp a.eval o).run P W = .ok (.value (.pointer (some ⟨W.heap.size, 0, none⟩))) (W.alloc (.cells z.cells T)) := by
    simp [execOp, ho, Instr.alloc, zeroValue, typeInfo, hi, hiz, newVar, newRow]
  unfold Oper.wp
  rw [hr]
  refine ⟨_, _, _, R, rfl, ⟨W.heap.size, rfl, rfl⟩, post1_new h1 T z.cells k xs hk ?_ (fun _ _ => .val _)⟩
  subst hx
  rw [List.length_map, List.take_length]
  exact relL_vals R W _

theorem O.box {T k : Nat} {x : Operand} {v : AV} {xs : List AV} (ho : o.op = .box T x) (hx : ev E x = some v) (hv : v.cells = xs) (hk : xs.length = k) (h1 : (match v with | .val u => u.oneCell' | .opt _ _ => false | _ => true) = true) :
    OpW P N o E H (NewBlk (fun b => .val (.pointer (some ⟨b, 0, none⟩))) T k xs) := fun R a W h0 h2 h3 ha => by
  have hc := (ha.ev hx).cells (fun u hu => by subst hu; exact h1) (fun c y hu => by subst hu; cases h1)
  rw [hv] at hc
  have hr : (execOp a.eval o).run P W = .ok (.value (.pointer (some ⟨W.heap.size, 0, none⟩))) (W.alloc (.cells (a.eval x).cells T)) := by
    simp [execOp, ho, Instr.box, newVar, newRow]
  unfold Oper.wp
  rw [hr]
  have hl := hc.1
  rw [Array.length_toList] at hl
  refine ⟨_, _, _, R, rfl, ⟨W.heap.size, rfl, rfl⟩, post1_new h0 T _ k xs (by omega) ?_ (fun _ _ => .val _)⟩
  rw [List.take_of_length_le (by rw [Array.length_toList]; omega)]
  exact hc

/-! Struct and array literals. -/

def splice (xs : List AV) (off : Nat) : List AV → List AV
  | [] => xs
  | c :: r => splice (xs.set off c) (off + 1) r
def fillA (place : Nat → Option (Nat × Nat)) (xs : List AV) : List (Nat × AV) → Option (List AV)
  | [] => some xs
  | (i, v) :: r => match place i with
    | none => none
    | some (off, size) => bif Nat.beq v.cells.length size && Nat.ble (off + v.cells.length) xs.length then fillA place (splice xs off v.cells) r else none

theorem splice_rel {R : Nat → Prop} {W : World} : ∀ (cs : List AV) (us : List Value) (xs : List AV) (ws : Array Value) (off k : Nat), RelL R W cs us → RelL R W xs ws.toList →
    RelL R W (splice xs (off + k) cs) ((us.zipIdx k).foldl (fun cs (c, j) => cs.setIfInBounds (off + j) c) ws).toList
  | [], us, xs, ws, off, k, h1, h2 => by
    have : us = [] := List.eq_nil_of_length_eq_zero (by simpa using h1.1)
    subst this
    exact h2
  | c :: r, us, xs, ws, off, k, h1, h2 => by
    obtain ⟨u, ur, rfl, h3, h4⟩ := h1.uncons
    exact splice_rel r ur (xs.set (off + k) c) (ws.setIfInBounds (off + k) u) off (k + 1) h4 (by
      rw [Array.toList_setIfInBounds]; exact h2.set _ h3)

theorem fill_rel {R : Nat → Prop} {W : World} {place place' : Nat → Option (Nat × Nat)} (hp : ∀ i q, place i = some q → place' i = some q) : ∀ (ps : List (Nat × AV)) (vs : List (Nat × Value)) (xs ys : List AV) (ws : Array Value),
    ps.map (·.1) = vs.map (·.1) → RelL R W (ps.map (·.2)) (vs.map (·.2)) → (∀ p ∈ ps, (∀ u, p.2 = .val u → u.oneCell' = true) ∧ ∀ c y, p.2 ≠ .opt c y) → RelL R W xs ws.toList → fillA place xs ps = some ys →
    ∃ zs : Array Value, Instr.fill place' ws vs = some zs ∧ RelL R W ys zs.toList
  | [], vs, xs, ys, ws, h1, h2, h3, h4, h5 => by
    have : vs = [] := by cases vs <;> simp_all
    subst this
    cases h5
    exact ⟨ws, rfl, h4⟩
  | (i, v) :: r, vs, xs, ys, ws, h1, h2, h3, h4, h5 => by
    obtain ⟨u, ur, he, h6, h7⟩ := h2.uncons
    cases vs with
    | nil => simp at h1
    | cons p vr =>
      obtain ⟨i', u'⟩ := p
      simp only [List.map_cons, List.cons.injEq] at h1 he
      obtain ⟨rfl, h1⟩ := h1
      obtain ⟨rfl, rfl⟩ := he
      unfold fillA at h5
      split at h5
      · cases h5
      · rename_i off size hpl
        have hc := h6.cells (h3 _ (List.mem_cons_self ..)).1 (h3 _ (List.mem_cons_self ..)).2
        have hl : v.cells.length = u'.cells.size := by have := hc.1; rw [Array.length_toList] at this; exact this.symm
        cases hcond : (Nat.beq v.cells.length size && Nat.ble (off + v.cells.length) xs.length) with
        | false => rw [hcond] at h5; cases h5
        | true =>
          rw [hcond] at h5
          simp only [Bool.and_eq_true] at hcond
          have h8 := Nat.eq_of_beq_eq_true hcond.1
          have h9 := Nat.le_of_ble_eq_true hcond.2
          have hwl : ws.size = xs.length := by have := h4.1; rw [Array.length_toList] at this; exact this
          have hsp := splice_rel v.cells u'.cells.toList xs ws off 0 hc h4
          obtain ⟨zs, h10, h11⟩ := fill_rel hp r vr _ ys _ h1 h7 (fun p hp => h3 p (List.mem_cons_of_mem _ hp)) hsp h5
          refine ⟨zs, ?_, h11⟩
          unfold Instr.fill
          rw [hp _ _ hpl]
          simp only
          rw [if_neg (by simp; omega)]
          rw [← Array.foldl_toList, Array.toList_zipIdx]
          exact h10

class TyB (P : Program) (T : Nat) (ps : outParam (List (Nat × Nat))) (z : outParam Value) : Prop where
  ax : ∃ i, P.info? T = some i ∧ i.zero = some z ∧ ((∃ fs, P.underlying T = some (.struct fs) ∧ fs.toList.mapM (fun f => (P.info? f.type).map fun i => (f.offset, i.size)) = some ps) ∨
    (∃ n U ie, P.underlying T = some (.array n U) ∧ P.info? U = some ie ∧ ps = (List.range n).map fun i => (i * ie.size, ie.size)))

def vals1 : List (Nat × AV) → Bool
  | [] => true
  | (_, .val u) :: r => u.oneCell' && vals1 r
  | (_, .opt _ _) :: _ => false
  | _ :: r => vals1 r
theorem vals1_spec : ∀ {ps : List (Nat × AV)}, vals1 ps = true → ∀ p ∈ ps, (∀ u, p.2 = .val u → u.oneCell' = true) ∧ ∀ c y, p.2 ≠ .opt c y
  | [], _, p, hp => by cases hp
  | (i, v) :: r, h, p, hp => by
    rcases List.mem_cons.1 hp with rfl | hp
    · refine ⟨fun u hu => ?_, fun c y hu => ?_⟩
      · simp only at hu
        subst hu
        simp only [vals1, Bool.and_eq_true] at h
        exact h.1
      · simp only at hu
        subst hu
        cases h
    · refine vals1_spec (ps := r) ?_ p hp
      cases v <;> simp_all [vals1]

def evp (E : Env) : List (Nat × Operand) → Option (List (Nat × AV))
  | [] => some []
  | (i, x) :: r => match ev E x, evp E r with | some v, some vs => some ((i, v) :: vs) | _, _ => none
theorem RelA.evp {R : Nat → Prop} {W : World} {a : Act} (h : RelA N R W E a) : ∀ {xs : List (Nat × Operand)} {vs : List (Nat × AV)}, A.evp E xs = some vs →
    vs.map (·.1) = (xs.map fun (i, x) => (i, a.eval x)).map (·.1) ∧ RelL R W (vs.map (·.2)) ((xs.map fun (i, x) => (i, a.eval x)).map (·.2))
  | [], vs, hx => by cases hx; exact ⟨rfl, RelL.nil⟩
  | (i, x) :: r, vs, hx => by
    unfold A.evp at hx
    split at hx
    · rename_i v vs' h1 h2
      cases hx
      obtain ⟨h3, h4⟩ := RelA.evp h h2
      exact ⟨by simp [h3], RelL.cons (h.ev h1) h4⟩
    · cases hx

theorem O.build {T : Nat} {pl : List (Nat × Nat)} {z : Value} {parts : List (Nat × Operand)} {ps : List (Nat × AV)} {ys : List AV} [hb : TyB P T pl z] (ho : o.op = .build T parts.toArray) (hx : evp E parts = some ps) (h1 : vals1 ps = true)
    (hy : fillA (pl[·]?) (z.cells.toList.map .val) ps = some ys) : OpW P N o E H (Is (.agg ys)) := .of_run fun R a W h0 h2 ha => by
  obtain ⟨i, hi, hz, hu⟩ := hb.ax
  obtain ⟨h3, h4⟩ := ha.evp hx
  have key : ∀ place', (∀ i q, pl[i]? = some q → place' i = some q) → ∃ zs : Array Value, Instr.fill place' z.cells (parts.map fun (i, x) => (i, a.eval x)) = some zs ∧ RelL R W ys zs.toList := fun place' hp =>
    fill_rel (W := W) (R := R) (place := (pl[·]?)) (place' := place') hp ps _ _ ys z.cells h3 h4 (vals1_spec h1) (relL_vals R W _) hy
  have hfin : ∀ zs : Array Value, P.built T (parts.map fun (i, x) => (i, a.eval x)) = some zs → RelL R W ys zs.toList → ∃ u, (execOp a.eval o).run P W = .ok (.value u) W ∧ RelV R W (.agg ys) u := fun zs h5 h6 => by
    refine ⟨.agg zs, ?_, by simpa using h6.toAgg⟩
    simp only [execOp, ho]
    rw [Sem.run_bind, run_build W T _ zs (by simpa using h5)]
    rfl
  rcases hu with ⟨fs, hu, hm⟩ | ⟨n, U, ie, hu, hie, hpl⟩
  · obtain ⟨zs, h5, h6⟩ := key (pl.toArray[·]?) (fun i q h => by simpa using h)
    exact hfin zs (by unfold Program.built; simp [hi, hu, hz, hm]; simpa using h5) h6
  · obtain ⟨zs, h5, h6⟩ := key (fun i => some (i * ie.size, ie.size)) (fun i q h => by
      subst hpl
      obtain ⟨h7, rfl⟩ := List.getElem?_eq_some_iff.1 h
      simp)
    exact hfin zs (by unfold Program.built; simp [hi, hu, hz, hie]; exact h5) h6

def zerosA (n : Nat) (z : Value) : List AV := (List.replicate n (z.cells.toList.map AV.val)).flatten
theorem zeros_cells (z : Value) (k : Nat) (hz : z.cells.size = k) : ∀ n, ((Array.range (n * k)).map (z.cells[· % z.cells.size]!)).toList = (List.replicate n z.cells.toList).flatten := by
  intro n
  apply List.ext_getElem?
  intro i
  have key : ∀ (n i : Nat), (List.replicate n z.cells.toList).flatten[i]? = if i < n * k then some (z.cells[i % k]!) else none := by
    intro n
    induction n with
    | zero => intro i; simp
    | succ n ih =>
      intro i
      rw [List.replicate_succ, List.flatten_cons, List.getElem?_append]
      by_cases h : i < k
      · have h1 : i < z.cells.size := by omega
        have h2 : i < (n + 1) * k := by rw [Nat.add_mul]; omega
        simp [h1, h2, Nat.mod_eq_of_lt h]
      · have h1 : ¬ i < z.cells.toList.length := by simp; omega
        rw [if_neg h1, ih]
        have e : (i - k) % k = i % k := by rw [← Nat.mod_eq_sub_mod (by omega)]
        simp only [Array.length_toList, hz, e]
        have h3 : (i - k < n * k) ↔ (i < (n + 1) * k) := by rw [Nat.add_mul]; omega
        simp only [h3]
  rw [key, hz]
  by_cases h : i < n * k <;> simp [h]

theorem O.buildSlice {T U k bs n : Nat} {z : Value} {parts : List (Nat × Operand)} {ps : List (Nat × AV)} {ys : List AV} [hs : TyS P T U k bs z] (ho : o.op = .buildSlice T n parts.toArray) (hx : evp E parts = some ps) (h1 : vals1 ps = true)
    (hsm : Nat.ble (n * k) 16777216 = true) (hpos : Nat.ble 1 (n * k) = true)
    (hzk : Nat.beq z.cells.size k = true) (hy0 : fillA (fun i => some (i * k, k)) (zerosA n z) ps = some ys) : OpW P N o E H (NewBlk (fun b => .val (.slice (some ⟨b, 0, none⟩) n n)) U (n * k) ys) := fun R a W h0 h2 h3' ha => by
  obtain ⟨i, hi, hik, hib, hz⟩ := hs.el
  obtain ⟨h3, h4⟩ := ha.evp hx
  have hy : fillA (fun i => some (i * k, k)) (((Array.range (n * k)).map (z.cells[· % z.cells.size]!)).toList.map .val) ps = some ys := by
    rw [zeros_cells z k (Nat.eq_of_beq_eq_true hzk) n, List.map_flatten, List.map_replicate]
    exact hy0
  obtain ⟨zs, h5, h6⟩ := fill_rel (W := W) (R := R) (place := fun i => some (i * k, k)) (place' := fun j => some (j * i.size, i.size)) (fun j q h => by rw [hik]; exact h) ps _ _ ys ((Array.range (n * k)).map (z.cells[· % z.cells.size]!)) h3 h4 (vals1_spec h1) (relL_vals R W _) hy
  have hsm := Nat.le_of_ble_eq_true hsm
  have hpos := Nat.le_of_ble_eq_true hpos
  have hlen : ∀ (ps : List (Nat × AV)) (xs ys : List AV), fillA (fun i => some (i * k, k)) xs ps = some ys → ys.length = xs.length := by
    intro ps
    have hsp : ∀ (cs xs : List AV) (off : Nat), (splice xs off cs).length = xs.length := by
      intro cs
      induction cs with
      | nil => intro xs off; rfl
      | cons c r ih => intro xs off; rw [splice, ih]; simp
    induction ps with
    | nil => intro xs ys h; cases h; rfl
    | cons p r ih =>
      intro xs ys h
      unfold fillA at h
      simp only at h
      cases hcond : (Nat.beq p.2.cells.length k && Nat.ble (p.1 * k + p.2.cells.length) xs.length) with
      | false => rw [hcond] at h; cases h
      | true => rw [hcond] at h; rw [ih _ _ h, hsp]
  have hyl : ys.length = n * k := by rw [hlen _ _ _ hy]; simp
  have hzl : zs.size = n * k := by have := h6.1; rw [Array.length_toList] at this; omega
  have hr : (execOp a.eval o).run P W = .ok (.value (.slice (some ⟨W.heap.size, 0, none⟩) n n)) (W.alloc (.cells zs U)) := by
    simp only [execOp, ho]
    rw [Sem.run_bind, run_buildSlice (P := P) W T U n _ zs i z hs.ty hi hz (by rw [hik]; omega) (by rw [hik]; omega) (by rw [hik]; simpa [hik] using h5)]
    rfl
  unfold Oper.wp
  rw [hr]
  refine ⟨_, _, _, R, rfl, ⟨W.heap.size, rfl, rfl⟩, post1_new h0 U zs (n * k) ys hzl ?_ (fun _ _ => .val _)⟩
  rw [List.take_of_length_le (by rw [Array.length_toList]; omega)]
  exact h6

end
end Go.Proofs.Ytjmkoelmiehdjaa.A

namespace Go.Proofs.Ytjmkoelmiehdjaa.A
open Go.RowKit L
set_option linter.unusedVariables false
set_option linter.unusedSimpArgs false

theorem Mods.setRow {S : Nat → Prop} {a w : World} (h : Mods S a w) {g : Nat} (hg : g < a.heap.size → S g) (cs : Array Value) : Mods S a (w.setRow g cs) :=
  ⟨h.os, h.tape, h.output, by simpa [World.setRow] using h.size, fun k hk hs => (setRow_other w g k cs (fun e => hs (e ▸ hg (e ▸ hk)))).trans (h.block k hk hs)⟩

theorem setCells_row (w : World) (g o : Nat) (vs : List Value) (cur : Array Value) (t : TypeId) (hg : w.heap[g]? = some (.cells cur t (0, 0))) (hfit : o + vs.length ≤ cur.size) (h1 : ∀ v ∈ vs, v.oneCell' = true) :
    w.setCells g o vs = w.setRow g (cur.toList.take o ++ vs ++ cur.toList.drop (o + vs.length)).toArray := by
  have a := run_storeCells_at (default : Program) g o t vs 0 cur w hg (by simpa using hfit) h1
  have b := run_storeCells_cells (P := (default : Program)) g o vs 0 w (fun j hj => by
    rw [cell_of_row w g (o + 0 + j) cur t (0, 0) hg]
    have : o + 0 + j < cur.size := by omega
    simp at this ⊢; omega) (fun j hj => by simp [World.frozen?, hg]) h1
  rw [a] at b
  simp only [Nat.add_zero] at b
  injection b with _ e
  exact e.symm

/-- The state after the block of one entry has got other cells. -/
theorem RelS.setEntry {Γ : Cx} {R : Nat → Prop} {H : List HE} {W W' : World} (h : RelS Γ R H W) {i : Nat} {e e' : HE} (hi : H[i]? = some e) (hm : Mods (fun b => e.foot b) W W') (hf : ∀ b, e'.foot b → e.foot b ∨ (W.heap.size ≤ b))
    (hok : e'.ok R W') : RelS Γ R (H.set i e') W' := by
  obtain ⟨hlt, rfl⟩ := List.getElem?_eq_some_iff.1 hi
  have hmem : H[i] ∈ H := List.getElem_mem hlt
  have hR : ∀ b, R b → W'.heap[b]? = W.heap[b]? := fun b hb => hm.block b (h.rlt b hb) fun hh => (h.own _ hmem b hh).2 hb
  have hother : ∀ j (hj : j < H.length), j ≠ i → ∀ b, H[j].foot b → ¬ H[i].foot b := fun j hj hji b hb hb' => by
    rcases Nat.lt_or_gt_of_ne hji with hlt' | hgt
    · exact (List.pairwise_iff_getElem.1 h.disj j i hj hlt hlt') b hb hb'
    · exact (List.pairwise_iff_getElem.1 h.disj i j hlt hj hgt) b hb' hb
  have hold : ∀ j (hj : j < H.length), j ≠ i → ∀ b, H[j].foot b → W'.heap[b]? = W.heap[b]? := fun j hj hji b hb =>
    hm.block b (HE.ok_lt (h.ok _ (List.getElem_mem hj)) hb) (hother j hj hji b hb)
  have hown' : ∀ b, e'.foot b → (Γ.w0.heap.size ≤ b ∨ Γ.S b) ∧ ¬ R b := fun b hb => by
    rcases hf b hb with h1 | h1
    · exact h.own _ hmem b h1
    · exact ⟨.inl (Nat.le_trans h.mods.size h1), fun hr => by have := h.rlt b hr; omega⟩
  refine ⟨Mods.then h.mods hm fun b hb hh => ?_, fun b hb => Nat.lt_of_lt_of_le (h.rlt b hb) hm.size, h.rsub, h.rnew, ?_, ?_, ?_⟩
  · rcases (h.own _ hmem b hh).1 with h1 | h1
    · omega
    · exact h1
  · intro f hfm
    obtain ⟨j, hj, rfl⟩ := List.getElem_of_mem hfm
    rw [List.length_set] at hj
    by_cases hji : i = j
    · subst hji; rw [List.getElem_set_self]; exact hok
    · rw [List.getElem_set_ne hji]
      exact HE.ok_mono (fun _ h => h) hR hm.size (hold j hj (Ne.symm hji)) (h.ok _ (List.getElem_mem hj))
  · intro f hfm b hb
    obtain ⟨j, hj, rfl⟩ := List.getElem_of_mem hfm
    rw [List.length_set] at hj
    by_cases hji : i = j
    · subst hji; rw [List.getElem_set_self] at hb; exact hown' b hb
    · rw [List.getElem_set_ne hji] at hb
      exact h.own _ (List.getElem_mem hj) b hb
  · rw [List.pairwise_iff_getElem]
    intro j k hj hk hjk b hb hb'
    rw [List.length_set] at hj hk
    have dis : ∀ m (hm' : m < H.length), m ≠ i → H[m].foot b → ¬ e'.foot b := fun m hm' hmi h1 h2 => by
      rcases hf b h2 with h3 | h3
      · exact hother m hm' hmi b h1 h3
      · have := HE.ok_lt (h.ok _ (List.getElem_mem hm')) h1; omega
    by_cases hij : i = j
    · subst hij
      rw [List.getElem_set_self] at hb
      rw [List.getElem_set_ne (by omega)] at hb'
      exact dis k hk (by omega) hb' hb
    · rw [List.getElem_set_ne hij] at hb
      by_cases hik : i = k
      · subst hik
        rw [List.getElem_set_self] at hb'
        exact dis j hj (Ne.symm hij) hb hb'
      · rw [List.getElem_set_ne hik] at hb'
        exact (List.pairwise_iff_getElem.1 h.disj j k hj hk hjk) b hb hb'

theorem RelA.keep {N : Nat} {R : Nat → Prop} {W W' : World} {E : Env} {a : Act} (h : RelA N R W E a) (hR : ∀ b, R b → W'.heap[b]? = W.heap[b]?) : RelA N R W' E a := h.mono (fun _ h => h) hR

section
variable {Γ : Cx} {P : Program} {Q : Exit → Act → World → Prop} {E : Env} {H : List HE} {N : Nat} {o : Oper} {ops : Array Oper} {rest : List Oper}

theorem splice_eq : ∀ (cs xs : List AV) (o : Nat), o + cs.length ≤ xs.length → splice xs o cs = xs.take o ++ cs ++ xs.drop (o + cs.length)
  | [], xs, o, h => by simp [splice]
  | c :: r, xs, o, h => by
    simp only [List.length_cons] at h
    rw [splice, splice_eq r _ (o + 1) (by simp; omega)]
    apply List.ext_getElem?
    intro k
    simp only [List.getElem?_append, List.length_append, List.length_take, List.length_set, List.getElem?_take, List.getElem?_drop, List.getElem?_set, List.length_cons]
    by_cases h1 : k < o
    · simp [h1, show k < o + 1 by omega, show min (o + 1) xs.length = o + 1 by omega, show min o xs.length = o by omega, show k < o + 1 + r.length by omega, show o ≠ k by omega, show k < o + (r.length + 1) by omega]
    · by_cases h2 : k = o
      · subst h2; simp [show min (k + 1) xs.length = k + 1 by omega, show min k xs.length = k by omega, show k < k + 1 + r.length by omega, show k < xs.length by omega]
      · by_cases h3 : k < o + 1 + r.length
        · simp [show min (o + 1) xs.length = o + 1 by omega, show min o xs.length = o by omega, h1, show ¬ k < o + 1 by omega, h3, show k < o + (r.length + 1) by omega]
          rw [show k - o = (k - (o + 1)) + 1 by omega]; simp
        · simp [show min (o + 1) xs.length = o + 1 by omega, show min o xs.length = o by omega, h1, show ¬ k < o + 1 by omega, h3, show ¬ k < o + (r.length + 1) by omega]
          rw [show k - (o + 1 + r.length) = k - (o + (r.length + 1)) by omega, show o + 1 + r.length + (k - (o + (r.length + 1))) = o + (r.length + 1) + (k - (o + (r.length + 1))) by omega]
          simp [show o ≠ o + (r.length + 1) + (k - (o + (r.length + 1))) by omega]

/-- A store into a block of the walk's own. -/
theorem AO.store {T : Nat} {p x : Operand} {b j : Nat} {v : AV} {i T' room k : Nat} {xs ys : List AV} {g : Bool} {H' : List HE} [hg : TyG P T g k] (ho : o.op = .store T p x) (hgd : o.guard = none) (hd : o.dst = none)
    (hp : ev E p = some (.val (.pointer (some ⟨b, j, none⟩)))) (hx : ev E x = some v) (hi : H[i]? = some (.blk b T' room xs)) (h1 : v.cells.all AV.one = true) (hk : v.cells.length = k) (hjk : Nat.ble (j + k) xs.length = true)
    (hy : splice xs j v.cells = ys) (hH : H.set i (.blk b T' room ys) = H') (next : AO Γ P ops Q rest E H') : AO Γ P ops Q (o :: rest) E H := fun R a W hs ha => by
  have hjk := Nat.le_of_ble_eq_true hjk
  obtain ⟨d, inf, hd1, hi1, hk1, hg1⟩ := hg.ax
  have hmem := List.mem_of_getElem? hi
  obtain ⟨us, cs, hb, hsz, ht, hr⟩ := hs.ok _ hmem
  have hrv := ha.ev hx
  have hc := hrv.cells (fun u hu => by
    subst hu
    simp only [AV.cells, List.all_cons, List.all_nil, Bool.and_true] at h1
    exact h1) (fun c y hu => by subst hu; cases h1)
  have hone := hc.all_one h1
  have hlen : (a.eval x).cells.toList.length = k := by rw [hc.1, hk]
  have hxs : xs.length ≤ cs.size := by
    have := hr.1
    have h5 : cs.toList.length = cs.size := Array.length_toList
    rw [← ht, List.length_take] at this; omega
  have hrun := run_storeCells_at (P := P) b j T' (a.eval x).cells.toList 0 cs W hb (by rw [hlen]; omega) hone
  have hex : (execOp a.eval o).run P W = .ok .skip (W.setRow b (cs.toList.take j ++ (a.eval x).cells.toList ++ cs.toList.drop (j + k)).toArray) := by
    simp only [execOp, ho, (ha.ev hp).val_inv, Instr.storeAt, Instr.sureAddr, Sem.run_bind, Sem.run_pure, Result.andThen_ok, storeVar, sizeOf, typeInfo, hi1]
    have h5 : (a.eval x).cells.size = inf.size := by rw [Array.length_toList] at hlen; omega
    simp only [run_program, Result.andThen_ok, hi1, Sem.run_pure, h5, ne_eq, not_true_eq_false, if_false]
    rw [hrun, hlen]
    simp
  unfold wpList
  rw [if_pos (by unfold Region.wanted; rw [hgd])]
  refine .inl ?_
  unfold Oper.wp
  rw [hex]
  show wpList P ops Q rest (a.put o.dst undef) _
  rw [hd]
  have hm : Mods (fun c => (HE.blk b T' room xs).foot c) W (W.setRow b (cs.toList.take j ++ (a.eval x).cells.toList ++ cs.toList.drop (j + k)).toArray) := Mods.setRow (S := fun c => (HE.blk b T' room xs).foot c) (Mods.refl _ _) (fun _ => rfl) _
  have hR : ∀ c, R c → (W.setRow b (cs.toList.take j ++ (a.eval x).cells.toList ++ cs.toList.drop (j + k)).toArray).heap[c]? = W.heap[c]? := fun c hc => hm.block c (hs.rlt c hc) fun hh => (hs.own _ hmem c hh).2 hc
  subst hH
  refine next R a _ (hs.setEntry hi hm (fun c hc => .inl hc) ?_) (ha.keep hR)
  refine ⟨_, _, setRow_heap W b cs _ T' _ hb, ?_, rfl, ?_⟩
  · rw [List.size_toArray, List.length_append, List.length_append, List.length_take, List.length_drop, Array.length_toList, hlen]; omega
  · rw [← hy, splice_eq _ _ _ (by rw [hk]; omega), hk]
    have e : (cs.toList.take j ++ (a.eval x).cells.toList ++ cs.toList.drop (j + k)).take (xs.take j ++ v.cells ++ xs.drop (j + k)).length = us.take j ++ (a.eval x).cells.toList ++ us.drop (j + k) := by
      have hul : us.length = xs.length := hr.1
      apply List.ext_getElem?
      intro q
      subst ht
      simp only [List.getElem?_take, List.getElem?_append, List.length_append, List.length_take, List.length_drop, hlen, hk, Array.length_toList, List.getElem?_drop]
      by_cases q1 : q < j
      · simp [q1, show q < xs.length by omega, show q < min j xs.length + k + (xs.length - (j + k)) by omega, show q < min j cs.size + k by omega, show q < min j cs.size by omega, show q < min j (min xs.length cs.size) + k by omega, show q < min j (min xs.length cs.size) by omega]
      · by_cases q2 : q < j + k
        · simp [show min j xs.length = j by omega, show min j cs.size = j by omega, show min xs.length cs.size = xs.length by omega, q1, q2, show q < j + k + (xs.length - (j + k)) by omega]
        · by_cases q3 : q < xs.length
          · simp [show min j xs.length = j by omega, show min j cs.size = j by omega, show min xs.length cs.size = xs.length by omega, q1, q2, show q < j + k + (xs.length - (j + k)) by omega, show j + k + (q - (j + k)) < xs.length by omega]
          · simp [show min j xs.length = j by omega, show min j cs.size = j by omega, show min xs.length cs.size = xs.length by omega, q1, q2, show ¬ q < j + k + (xs.length - (j + k)) by omega, show ¬ j + k + (q - (j + k)) < xs.length by omega]
    show RelL R _ _ (List.take _ (cs.toList.take j ++ (a.eval x).cells.toList ++ cs.toList.drop (j + k)))
    rw [e]
    exact (((hr.take j).app (by exact hc)).app (hr.drop (j + k))).mono (fun _ h => h) hR

/-! What is appended. -/

/-- The second argument of an append: n elements, these cells. -/
def SrcA (P : Program) (T sz : Nat) (H : List HE) (x : AV) (n : Nat) (ys : List AV) : Prop :=
  ys.length = n * sz ∧ ∀ R W u, (∀ e ∈ H, e.ok R W) → RelV R W x u → ∃ us, RelL R W ys us ∧ ((∀ v ∈ us, v.oneCell' = true) → Src P sz T u n us W)

theorem SrcA.ro {T U sz n : Nat} {full : Bool} {ys : List AV} (ht : P.underlying T = some (.slice U)) (hl : ys.length = n * sz) (hz : 0 < sz) : SrcA P T sz H (.ro full n ys) n ys := by
  refine ⟨hl, fun R W u _ hv => ?_⟩
  cases hv with
  | emp _ ad cap h1 h2 =>
    refine ⟨[], RelL.nil, fun _ => ?_⟩
    cases ad with
    | none => exact Src.ofNil W ht cap
    | some ad => exact Src.ofSlice W ht ad 0 cap [] (by simp) (fun j v h => by simp at h) (fun u h => by cases h)
  | ro _ _ _ b off cap us hb hc hr h1 h2 h3 =>
    refine ⟨(List.range ys.length).map us, ⟨by simp, fun j hj => ?_⟩, fun h9 => Src.ofSlice W ht ⟨b, off, none⟩ n cap _ (by simpa using hl) (fun j v h => ?_) h9⟩
    · have : ((List.range ys.length).map us).getD j undef = us j := by simp [List.getD, hj]
      rw [this]; exact hr j hj
    · obtain ⟨h4, rfl⟩ := List.getElem?_eq_some_iff.1 h
      simp at h4
      rw [addr_add]
      simpa using hc j h4
theorem SrcA.nil {T U sz : Nat} (ht : P.underlying T = some (.slice U)) : SrcA P T sz H (.val (.slice none 0 0)) 0 [] :=
  ⟨by simp, fun R W u _ hv => by rw [hv.val_inv]; exact ⟨[], RelL.nil, fun _ => Src.ofNil W ht 0⟩⟩
theorem SrcA.blk {T U sz n cap b off T' room : Nat} {xs ys : List AV} (ht : P.underlying T = some (.slice U)) (hm : HE.blk b T' room xs ∈ H) (hy : (xs.drop off).take (n * sz) = ys) (hl : ys.length = n * sz) : SrcA P T sz H (.val (.slice (some ⟨b, off, none⟩) n cap)) n ys := by
  refine ⟨hl, fun R W u hok hv => ?_⟩
  rw [hv.val_inv]
  obtain ⟨us, cs, hb, hsz, hts, hr⟩ := hok _ hm
  have hrl := (hr.drop off).take (n * sz)
  rw [hy] at hrl
  refine ⟨_, hrl, fun h9 => Src.ofSlice W ht ⟨b, off, none⟩ n cap _ (by rw [hrl.1, hl]) (fun j v h => ?_) h9⟩
  rw [addr_add, cell_of_row W b (off + j) cs T' (0, 0) hb]
  rw [List.getElem?_take] at h
  split at h
  · rw [List.getElem?_drop, ← hts, List.getElem?_take] at h
    split at h
    · simpa using h
    · cases h
  · cases h
theorem SrcA.row {T U T' sz n : Nat} {v : Value} {ys : List AV} (ht : P.underlying T = some (.slice U)) (hm : HE.row v T' sz n ys ∈ H) (hl : ys.length = n * sz) : SrcA P T sz H (.val v) n ys := by
  refine ⟨hl, fun R W u hok hv => ?_⟩
  rw [hv.val_inv]
  obtain ⟨us, hw, hr⟩ := hok _ hm
  refine ⟨us, hr, fun h9 => ?_⟩
  rcases hw.2 with ⟨rfl, rfl⟩ | ⟨g, cap, cur, rfl, hbg, hg, h1, h2, h3, h4⟩
  · have : us = [] := List.eq_nil_of_length_eq_zero (by simpa using hw.1)
    subst this
    exact Src.ofNil W ht 0
  · exact Src.ofSlice W ht ⟨g, 0, none⟩ n cap us (by rw [hr.1, hl]) (hw.cells (g := g) rfl) h9
/-- An append to a row of the walk's own. -/
theorem run_append_row {T U T2 k bs : Nat} {z : Value} (hs : TyS P T U k bs z) (hz : z.cells.size = k) (hk : 0 < k) {W : World} {v : Value} {n m : Nat} {us news : List Value} (hown : W.ownsRow 0 U k v n us) {x : Value} (hsrc : Src P k T2 x m news W)
    (h63 : n + m ≤ maxLen) (hby : (n + m) * bs ≤ 140737488355328) (ty : TypeId) :
    ∃ v' W', (Builtin.append_ #[T, T2] ty #[v, x]).run P W = .ok v' W' ∧ W'.ownsRow 0 U k v' (n + m) (us ++ news) ∧ W.grownBy W' v.ownBlock ∧ (v'.ownBlock = v.ownBlock ∨ v'.ownBlock = some W.heap.size) ∧ v'.oneCell' = true := by
  obtain ⟨i, hi, hik, hib, hiz⟩ := hs.el
  have hsmall : n + m ≤ 9223372036854775807 := by simp only [maxLen] at h63; omega
  have hlen : (us ++ news).length = (n + m) * k := by rw [List.length_append, hown.1, hsrc.newsLen, Nat.add_mul]
  have hsrc' : Src P i.size T2 x m news W := by rw [hik]; exact hsrc
  have grown : ∀ (old : Nat), old < n + m → ∀ (row : Option Nat),
      (W.drew.alloc (.cells ((us ++ news).toArray ++ Builtin.zeroCells z.cells (grownCap W (n + m) old U - (n + m))) U)).ownsRow 0 U k
        (.slice (some ⟨W.heap.size, 0, none⟩) (n + m) (grownCap W (n + m) old U)) (n + m) (us ++ news) ∧
      W.grownBy (W.drew.alloc (.cells ((us ++ news).toArray ++ Builtin.zeroCells z.cells (grownCap W (n + m) old U - (n + m))) U)) row := by
    intro old ho row
    have hge := grownCap_ge W (n + m) old U
    have hcm : grownCap W (n + m) old U ≤ maxLen := grownCap_le_maxLen W (n + m) old U h63
    refine ⟨⟨hlen, .inr ⟨W.heap.size, _, _, rfl, Nat.zero_le _, heap_alloc_new W.drew _, hge, hcm, ?_, ?_⟩⟩, ⟨rfl, rfl, rfl, by simp, fun q hq _ => Below.heap_alloc W.drew _ q hq⟩⟩
    · rw [Array.size_append, List.size_toArray, size_zeroCells, hz, hlen, ← Nat.add_mul]
      congr 1
      omega
    · rw [Array.toList_append, ← hlen]
      exact List.take_left
  rcases hown.2 with ⟨rfl, rfl⟩ | ⟨g, cap, cur, rfl, hbg, hg, hnc, hcm, hcs, htake⟩
  · have hx : us = [] := List.eq_nil_of_length_eq_zero (by simpa using hown.1)
    subst hx
    by_cases hm : m = 0
    · subst hm
      have hn : news = [] := List.eq_nil_of_length_eq_zero (by simpa using hsrc.newsLen)
      subst hn
      exact ⟨_, _, run_append_nothing (P := P) W T T2 ty U i hs.ty hi none 0 0 (Nat.le_refl _) x hsrc', World.ownsRow_nil .., ⟨rfl, rfl, rfl, Nat.le_refl _, fun _ _ _ => rfl⟩, .inl rfl, rfl⟩
    · have hr := run_append_grow_src (P := P) W T T2 ty U i z hs.ty hi hiz none 0 0 [] (by simp [Builtin.firstCells]) x m news hsrc' (by omega) (by omega) (growslice_fits (by omega) (by rw [hib]; exact hby))
      have hgr := grown 0 (by omega) (Value.ownBlock (.slice none 0 0))
      simp only [List.nil_append] at hgr hr ⊢
      exact ⟨_, _, hr, hgr.1, hgr.2, .inr rfl, rfl⟩
  · by_cases hroom : n + m ≤ cap
    · have hfit : n * k + news.length ≤ cur.size := by rw [hsrc.newsLen, hcs, ← Nat.add_mul]; exact Nat.mul_le_mul_right _ hroom
      have hr := run_append_room_src (P := P) W T T2 ty U i hs.ty hi g 0 n cap x m news hsrc' hroom (fun j hj => by
        rw [cell_of_row W g _ cur U (0, 0) hg]
        have : 0 + n * i.size + j < cur.size := by rw [hik]; omega
        simp at this ⊢; omega) (fun j hj => by simp [World.frozen?, hg])
      rw [hik, Nat.zero_add, setCells_row W g (n * k) news cur U hg hfit hsrc.one] at hr
      refine ⟨_, _, hr, ⟨hlen, .inr ⟨g, cap, _, rfl, Nat.zero_le _, setRow_heap W g cur _ U _ hg, hroom, hcm, ?_, ?_⟩⟩, ⟨rfl, rfl, rfl, by simp [World.setRow], fun q _ hq => setRow_other W g q _ (fun e => hq (by simp [Value.ownBlock, e]))⟩, .inl rfl, rfl⟩
      · simp only [List.size_toArray, List.length_append, List.length_take, List.length_drop, Array.length_toList]
        omega
      · show List.take _ (cur.toList.take (n * k) ++ news ++ cur.toList.drop (n * k + news.length)) = _
        rw [htake, ← hlen]
        exact List.take_left
    · have holds : (Builtin.firstCells i.size n (.slice (some ⟨g, 0, none⟩) n cap)).run P W.drew = .ok us.toArray W.drew := by
        have := run_firstCells_some (P := P) W.drew i.size n ⟨g, 0, none⟩ n cap us (by rw [hik]; exact hown.1) (by simpa using hown.cells (g := g) rfl)
        exact this
      have hr := run_append_grow_src (P := P) W T T2 ty U i z hs.ty hi hiz (some ⟨g, 0, none⟩) n cap us holds x m news hsrc' (by omega) (by omega) (growslice_fits (by omega) (by rw [hib]; exact hby))
      have hgr := grown cap (by omega) (Value.ownBlock (.slice (some ⟨g, 0, none⟩) n cap))
      exact ⟨_, _, hr, hgr.1, hgr.2, .inr rfl, rfl⟩

theorem append_exec {T T2 : Nat} {s x : Operand} (ho : o.op = .call { callee := .builtin .append, args := #[s, x], argTypes := #[T, T2] }) {a : Act} {W W' : World} {v' : Value} (hr : (Builtin.append_ #[T, T2] o.type #[a.eval s, a.eval x]).run P W = .ok v' W') :
    (execOp a.eval o).run P W = .ok (.value v') W' := by
  simp only [execOp, ho, resolve, invoke, builtin, Sem.run_bind, Sem.run_pure, Result.andThen_ok, List.map_toArray, List.map_cons, List.map_nil, hr]

theorem AO.append {T T2 U k bs d : Nat} {z : Value} {s x : Operand} {v : Value} {w : AV} {i n m : Nat} {xs ys : List AV} [hs : TyS P T U k bs z] (ho : o.op = .call { callee := .builtin .append, args := #[s, x], argTypes := #[T, T2] }) (hgd : o.guard = none) (hd : o.dst = some d) (hN : d < Γ.N)
    (hz : Nat.beq z.cells.size k = true) (hk : Nat.ble 1 k = true) (hv : ev E s = some (.val v)) (hx : ev E x = some w) (hi : H[i]? = some (.row v U k n xs)) (hsrc : SrcA P T2 k H w m ys) (hone : ys.all AV.one = true) (hn : n + m ≤ maxLen) (hby : (n + m) * bs ≤ 140737488355328)
    (next : ∀ v' : Value, v'.oneCell' = true → AO Γ P ops Q rest ((d, .val v') :: E) (H.set i (.row v' U k (n + m) (xs ++ ys)))) : AO Γ P ops Q (o :: rest) E H := fun R a W hs' ha => by
  have hmem := List.mem_of_getElem? hi
  obtain ⟨us, hown, hr⟩ := hs'.ok _ hmem
  obtain ⟨news, h1, h2⟩ := hsrc.2 R W (a.eval x) hs'.ok (ha.ev hx)
  obtain ⟨v', W', hrun, hown', hgr, hblk, h1c⟩ := run_append_row hs (Nat.eq_of_beq_eq_true hz) (Nat.le_of_ble_eq_true hk) hown (h2 (h1.all_one hone)) hn hby o.type
  unfold wpList
  rw [if_pos (by unfold Region.wanted; rw [hgd])]
  refine .inl ?_
  unfold Oper.wp
  rw [append_exec ho (by rw [(ha.ev hv).val_inv]; exact hrun)]
  show wpList P ops Q rest (a.put o.dst v') W'
  rw [hd]
  have hm : Mods (fun c => (HE.row v U k n xs).foot c) W W' := Mods.grown (Mods.refl _ _) hgr fun c hc _ => hc
  have hR : ∀ c, R c → W'.heap[c]? = W.heap[c]? := fun c hc => hm.block c (hs'.rlt c hc) fun hh => (hs'.own _ hmem c hh).2 hc
  refine next v' h1c R _ W' (hs'.setEntry hi hm (fun c hc => ?_) ⟨_, hown', (hr.app h1).mono (fun _ h => h) hR⟩) ((ha.keep hR).put hN (.val _))
  rcases hblk with hb | hb
  · exact .inl (by rw [HE.foot] at hc ⊢; rw [← hb]; exact hc)
  · rw [HE.foot, hb] at hc; cases hc; exact .inr (Nat.le_refl _)

def NewRow (U k n : Nat) (xs : List AV) : AV → List HE → Prop := fun v' Hn => ∃ v : Value, v' = .val v ∧ v.oneCell' = true ∧ Hn = [.row v U k n xs]

/-! ### What is known, told in other words -/

/-- A block that is written no more: pointers into it, and slices from its head. -/
def Thaw (b : Nat) (xs : List AV) (E : Env) (p : Nat × AV) : Prop :=
  (∃ o, look E p.1 = some (.val (.pointer (some ⟨b, o, none⟩))) ∧ p.2 = .rp xs o) ∨
  (∃ n cap, look E p.1 = some (.val (.slice (some ⟨b, 0, none⟩) n cap)) ∧ p.2 = .ro (Nat.beq n cap) n xs ∧ n ≤ cap ∧ cap ≤ maxLen)
theorem G.freezeBlk {X : Act → World → Prop} (i : Nat) {b T room : Nat} {xs : List AV} (hi : H[i]? = some (.blk b T room xs)) (E1 : Env) (h1 : ∀ p ∈ E1, Thaw b xs E p) (k : G Γ (E1 ++ E) (H.eraseIdx i) X) : G Γ E H X := fun R a W hs ha => by
  have hmem := List.mem_of_getElem? hi
  obtain ⟨hlt, he⟩ := List.getElem?_eq_some_iff.1 hi
  have hsub : (H.eraseIdx i).Sublist H := List.eraseIdx_sublist _ _
  have hdis : ∀ f ∈ H.eraseIdx i, ∀ c, f.foot c → ¬ c = b := fun f hf c hb hb' => by
    obtain ⟨j, hj, rfl⟩ := List.getElem_of_mem hf
    rw [List.getElem_eraseIdx] at hb
    rw [List.length_eraseIdx, if_pos hlt] at hj
    split at hb
    · exact (List.pairwise_iff_getElem.1 hs.disj j i (by omega) hlt (by omega)) c hb (by rw [he]; exact hb')
    · exact (List.pairwise_iff_getElem.1 hs.disj i (j + 1) hlt (by omega) (by omega)) c (by rw [he]; exact hb') hb
  have hRS : ∀ c, R c → R c ∨ c = b := fun b h => .inl h
  obtain ⟨us, cs, hb, hsz, ht, hr⟩ := hs.ok _ hmem
  have hcell : ∀ j, j < xs.length → W.cell? ⟨b, j, none⟩ = some (us.getD j undef) := fun j hj => by
    have hj' : j < us.length := by rw [hr.1]; exact hj
    rw [cell_of_row W b j cs T (0, 0) hb]
    have : us[j]? = cs[j]? := by rw [← ht, List.getElem?_take, if_pos hj]; simp
    rw [← this]; simp [List.getD, hj']
  refine k (fun c => R c ∨ c = b) a W ⟨hs.mods, ?_, fun b hb => .inl (hs.rsub b hb), ?_, fun e he => HE.ok_mono hRS (fun _ _ => rfl) (Nat.le_refl _) (fun _ _ => rfl) (hs.ok e (hsub.subset he)), ?_, hs.disj.sublist hsub⟩ ?_
  · rintro c (hc | rfl)
    · exact hs.rlt c hc
    · exact HE.ok_lt (hs.ok _ hmem) rfl
  · rintro c (hc | rfl)
    · exact hs.rnew c hc
    · exact .inr (hs.own _ hmem c rfl).1
  · intro e he c hc
    refine ⟨(hs.own e (hsub.subset he) c hc).1, ?_⟩
    rintro (h | h)
    · exact (hs.own e (hsub.subset he) c hc).2 h
    · exact hdis e he c hc h
  · have hA : RelA Γ.N (fun c => R c ∨ c = b) W E a := ha.mono hRS (fun _ _ => rfl)
    have hr' : RelL (fun c => R c ∨ c = b) W xs us := hr.mono hRS (fun _ _ => rfl)
    have hV : ∀ p ∈ E1, RelV (fun c => R c ∨ c = b) W p.2 (a.eval (.tmp p.1)) := fun p hp => by
      rcases h1 p hp with ⟨o, h2, h3⟩ | ⟨n, cap, h2, h3, h4, h5⟩
      · rw [h3, (hA.slots _ _ h2).val_inv]
        have := RelV.rp (R := fun c => R c ∨ c = b) (W := W) xs o b 0 (fun j => us.getD j undef) (.inr rfl) (fun j hj => by rw [Nat.zero_add]; exact hcell j hj) hr'.2
        rwa [Nat.zero_add] at this
      · rw [h3, (hA.slots _ _ h2).val_inv]
        refine .ro _ n xs b 0 cap (fun j => us.getD j undef) (.inr rfl) (fun j hj => by rw [Nat.zero_add]; exact hcell j hj) hr'.2 h4 h5 (fun h => (Nat.eq_of_beq_eq_true h).symm)
    clear k h1
    induction E1 with
    | nil => exact hA
    | cons p E1 ih =>
      obtain ⟨t, w0⟩ := p
      refine ⟨hA.defers, hA.size, fun t' w hw => ?_⟩
      simp only [List.cons_append] at hw
      unfold look at hw
      cases hb : Nat.beq t t' with
      | true =>
        rw [hb] at hw
        have := Nat.eq_of_beq_eq_true hb
        subst this
        cases hw
        exact hV _ (List.mem_cons_self ..)
      | false =>
        rw [hb] at hw
        exact (ih fun p hp => hV p (List.mem_cons_of_mem _ hp)).slots t' w hw

/-! ### Calls -/

def footOf (H : List HE) : Nat → Prop := fun b => ∃ e ∈ H, e.foot b

/-- What a function does, whatever the world: arguments that read so, blocks that it may write; the yield, and the blocks that are the caller's afterwards. -/
def Sp (P : Program) (f : FuncId) (args : List AV) (H0 : List HE) (Post : AV → List HE → Prop) : Prop :=
  ∀ (W : World) (R : Nat → Prop) (us : List Value), (∀ b, R b → b < W.heap.size) → (∀ e ∈ H0, e.ok R W ∧ ∀ b, e.foot b → ¬ R b) → H0.Pairwise Disj → RelL R W args us →
    Calls P f us.toArray W fun e W' => ∃ u r H' R', e = .returned u ∧ Post r H' ∧ RelS ⟨W, footOf H0, R, 0⟩ R' H' W' ∧ RelV R' W' r u

theorem Sp.mono {f : FuncId} {args : List AV} {H0 : List HE} {Post Post' : AV → List HE → Prop} (h : Sp P f args H0 Post) (hp : ∀ r H, Post r H → Post' r H) : Sp P f args H0 Post' := fun W R us h1 h2 h3 h4 =>
  (h W R us h1 h2 h3 h4).mono fun e W' ⟨u, r, H', R', h5, h6, h7, h8⟩ => ⟨u, r, H', R', h5, hp _ _ h6, h7, h8⟩

def envOf : Nat → List AV → Env
  | _, [] => []
  | k, v :: r => (k, v) :: envOf (k + 1) r

def FnQ (Γ : Cx) (P : Program) (fn : Func) (Post : AV → List HE → Prop) : Exit → Act → World → Prop :=
  bodyPost P fn fun e W' => ∃ u r H' R', e = .returned u ∧ Post r H' ∧ RelS ⟨Γ.w0, Γ.S, Γ.R0, 0⟩ R' H' W' ∧ RelV R' W' r u

theorem Sp.enter {f : FuncId} {args : List AV} {H0 : List HE} {Post : AV → List HE → Prop} {fn : Func} {c : Code} (hf : P.funcs[f]? = some fn) (hb : fn.body = some c) (n : Nat) (hn : fn.ntmps = n) (hl : Nat.ble args.length n = true)
    (h : ∀ w0 R0, AW ⟨w0, footOf H0, R0, n⟩ P (FnQ ⟨w0, footOf H0, R0, n⟩ P fn Post) c (envOf 0 args) H0) : Sp P f args H0 Post := fun W R us h1 h2 h3 h4 => by
  refine calls_of_wp hf hb (h W R R _ W ⟨Mods.refl _ _, h1, fun _ h => h, fun _ h => .inl h, fun e he => (h2 e he).1, fun e he b hb => ⟨.inr ⟨e, he, hb⟩, (h2 e he).2 b hb⟩, h3⟩ ⟨rfl, ?_, ?_⟩)
  · have := Nat.le_of_ble_eq_true hl
    have h5 := h4.1
    simp [hn]; omega
  · intro t v ht
    have key : ∀ (args : List AV) (k : Nat), look (envOf k args) t = some v → k ≤ t ∧ args[t - k]? = some v := by
      intro args
      induction args with
      | nil => intro k h; cases h
      | cons x r ih =>
        intro k h
        unfold envOf look at h
        cases hb : Nat.beq k t with
        | true =>
          rw [hb] at h
          have := Nat.eq_of_beq_eq_true hb
          subst this
          cases h
          exact ⟨Nat.le_refl _, by simp⟩
        | false =>
          rw [hb] at h
          obtain ⟨h5, h6⟩ := ih (k + 1) h
          refine ⟨by omega, ?_⟩
          rw [show t - k = (t - (k + 1)) + 1 by omega]
          simpa using h6
    obtain ⟨_, h5⟩ := key args 0 ht
    obtain ⟨u, h6, h7⟩ := h4.get (j := t) (by simpa using h5)
    have ht' : t < us.length := (List.getElem?_eq_some_iff.1 h6).1
    have hu : us[t] = u := (List.getElem?_eq_some_iff.1 h6).2
    have : Act.eval { tmps := us.toArray ++ Array.replicate (fn.ntmps - us.toArray.size) undef, defers := [] } (.tmp t) = u := by
      simp only [Act.eval, Array.getD]
      rw [dif_pos (by simp; omega)]
      simp [Array.getElem_append, ht', hu]
    rw [this]; exact h7

theorem AQ.ret1 {fn : Func} {Post : AV → List HE → Prop} {t : Nat} {r : AV} {H' : List HE} (hr : fn.results = #[.tmp t]) (ht : look E t = some r) (hH : ∃ H1, H1.Sublist H ∧ H'.Perm H1) (hp : Post r H') : AQ Γ (FnQ Γ P fn Post) .ret E H := fun R a W hs ha => by
  obtain ⟨H1, h1, h2⟩ := hH
  refine ⟨ha.defers, a.eval (.tmp t), ?_, _, r, H', R, rfl, hp, ?_, ha.slots t r ht⟩
  · simp [results, hr, Act.eval]
  · have := (hs.sub h1).perm h2
    exact ⟨this.mods, this.rlt, this.rsub, this.rnew, this.ok, this.own, this.disj⟩
theorem fn_post1 {R : Nat → Prop} {W W' : World} {r : AV} {u : Value} {H' : List HE} {R' : Nat → Prop} (hs : RelS ⟨W, footOf [], R, 0⟩ R' H' W') (hv : RelV R' W' r u) (h1 : ∀ b, R b → b < W.heap.size) : Post1 R W r H' u W' R' := by
  have hno : ∀ b, ¬ footOf [] b := fun b ⟨e, he, _⟩ => by cases he
  refine ⟨hs.mods.mono fun b _ hb => (hno b hb).elim, hs.rsub, fun b hb => ?_, hv, fun e he => ⟨hs.ok e he, fun b hb => ?_⟩, hs.disj⟩
  · rcases hs.rnew b hb with h | h | h
    · exact .inl h
    · exact .inr ⟨h, hs.rlt b hb⟩
    · exact (hno b h).elim
  · obtain ⟨h2, h3⟩ := hs.own e he b hb
    exact ⟨h2.resolve_right (hno b), h3⟩

/-- A call of a function that writes nothing of the caller's. -/
theorem O.call {f : FuncId} {xs : List Operand} {ats : Array TypeId} {args : List AV} {Post : AV → List HE → Prop} {fn : Func} (ho : o.op = .call { callee := .value (.func f), args := xs.toArray, argTypes := ats }) (hfn : P.funcs[f]? = some fn) (hn : (fn.name == "runtime.NumGoroutine") = false) (hb : fn.body.isNone = false)
    (hx : evs E xs = some args) (h : Sp P f args [] Post) : OpW P N o E H Post := fun R a W h0 h2 h3 ha => by
  unfold Oper.wp
  rw [run_callF ho hfn hn hb, List.map_toArray]
  have hc := h W R (xs.map a.eval) h0 (fun e he => by cases he) .nil (ha.evs hx)
  refine Calls.mono hc ?_
  rintro e W' ⟨u, r, H', R', rfl, hP, hs, hv⟩
  exact ⟨u, r, H', R', rfl, hP, fn_post1 hs hv h0⟩
end
end Go.Proofs.Ytjmkoelmiehdjaa.A

namespace Go.Proofs.Ytjmkoelmiehdjaa.A
instance n1 : TyN Try.prog 1 1 8 (.nilFunc) := ⟨Try.t1, Try.type1, rfl, rfl, rfl⟩
instance g1 : TyG Try.prog 1 false 1 := ⟨_, Try.t1, Try.underlying1, Try.type1, rfl, rfl⟩
instance d2 : TyD Try.prog 2 (.int .i64) := ⟨Try.underlying2⟩
instance n2 : TyN Try.prog 2 1 8 (.int .i64 0) := ⟨Try.t2, Try.type2, rfl, rfl, rfl⟩
instance g2 : TyG Try.prog 2 false 1 := ⟨_, Try.t2, Try.underlying2, Try.type2, rfl, rfl⟩
instance d3 : TyD Try.prog 3 (.int .i64) := ⟨Try.underlying3⟩
instance n3 : TyN Try.prog 3 1 8 (.int .i64 0) := ⟨Try.t3, Try.type3, rfl, rfl, rfl⟩
instance g3 : TyG Try.prog 3 false 1 := ⟨_, Try.t3, Try.underlying3, Try.type3, rfl, rfl⟩
instance d4 : TyD Try.prog 4 (.bool) := ⟨Try.underlying4⟩
instance n4 : TyN Try.prog 4 1 1 (.bool false) := ⟨Try.t4, Try.type4, rfl, rfl, rfl⟩
instance g4 : TyG Try.prog 4 false 1 := ⟨_, Try.t4, Try.underlying4, Try.type4, rfl, rfl⟩
instance d5 : TyD Try.prog 5 (.int .u8) := ⟨Try.underlying5⟩
instance n5 : TyN Try.prog 5 1 1 (.int .u8 0) := ⟨Try.t5, Try.type5, rfl, rfl, rfl⟩
instance g5 : TyG Try.prog 5 false 1 := ⟨_, Try.t5, Try.underlying5, Try.type5, rfl, rfl⟩
instance d6 : TyD Try.prog 6 (.int .u8) := ⟨Try.underlying6⟩
instance n6 : TyN Try.prog 6 1 1 (.int .u8 0) := ⟨Try.t6, Try.type6, rfl, rfl, rfl⟩
instance g6 : TyG Try.prog 6 false 1 := ⟨_, Try.t6, Try.underlying6, Try.type6, rfl, rfl⟩
instance n7 : TyN Try.prog 7 4 24 (.agg #[.int .i64 0, .int .i64 0, .bool false, .int .u8 0]) := ⟨Try.t7, Try.type7, rfl, rfl, rfl⟩
instance g7 : TyG Try.prog 7 true 4 := ⟨_, Try.t7, Try.underlying7, Try.type7, rfl, rfl⟩
instance f7_0 : TyF Try.prog 7 0 0 := ⟨_, _, Try.t2, Try.underlying7, rfl, rfl, Try.type2, by decide⟩
instance f7_1 : TyF Try.prog 7 1 1 := ⟨_, _, Try.t3, Try.underlying7, rfl, rfl, Try.type3, by decide⟩
instance f7_2 : TyF Try.prog 7 2 2 := ⟨_, _, Try.t4, Try.underlying7, rfl, rfl, Try.type4, by decide⟩
instance f7_3 : TyF Try.prog 7 3 3 := ⟨_, _, Try.t6, Try.underlying7, rfl, rfl, Try.type6, by decide⟩
instance b7 : TyB Try.prog 7 [(0, 1), (1, 1), (2, 1), (3, 1)] (.agg #[.int .i64 0, .int .i64 0, .bool false, .int .u8 0]) := ⟨Try.t7, Try.type7, rfl, .inl ⟨_, Try.underlying7, rfl⟩⟩
instance n8 : TyN Try.prog 8 4 24 (.agg #[.int .i64 0, .int .i64 0, .bool false, .int .u8 0]) := ⟨Try.t8, Try.type8, rfl, rfl, rfl⟩
instance g8 : TyG Try.prog 8 true 4 := ⟨_, Try.t8, Try.underlying8, Try.type8, rfl, rfl⟩
instance f8_0 : TyF Try.prog 8 0 0 := ⟨_, _, Try.t2, Try.underlying8, rfl, rfl, Try.type2, by decide⟩
instance f8_1 : TyF Try.prog 8 1 1 := ⟨_, _, Try.t3, Try.underlying8, rfl, rfl, Try.type3, by decide⟩
instance f8_2 : TyF Try.prog 8 2 2 := ⟨_, _, Try.t4, Try.underlying8, rfl, rfl, Try.type4, by decide⟩
instance f8_3 : TyF Try.prog 8 3 3 := ⟨_, _, Try.t6, Try.underlying8, rfl, rfl, Try.type6, by decide⟩
instance b8 : TyB Try.prog 8 [(0, 1), (1, 1), (2, 1), (3, 1)] (.agg #[.int .i64 0, .int .i64 0, .bool false, .int .u8 0]) := ⟨Try.t8, Try.type8, rfl, .inl ⟨_, Try.underlying8, rfl⟩⟩
instance d9 : TyD Try.prog 9 (.string) := ⟨Try.underlying9⟩
instance n9 : TyN Try.prog 9 1 16 (.string ⟨#[]⟩) := ⟨Try.t9, Try.type9, rfl, rfl, rfl⟩
instance g9 : TyG Try.prog 9 false 1 := ⟨_, Try.t9, Try.underlying9, Try.type9, rfl, rfl⟩
instance d10 : TyD Try.prog 10 (.string) := ⟨Try.underlying10⟩
instance n10 : TyN Try.prog 10 1 16 (.string ⟨#[]⟩) := ⟨Try.t10, Try.type10, rfl, rfl, rfl⟩
instance g10 : TyG Try.prog 10 false 1 := ⟨_, Try.t10, Try.underlying10, Try.type10, rfl, rfl⟩
instance d11 : TyD Try.prog 11 (.string) := ⟨Try.underlying11⟩
instance n11 : TyN Try.prog 11 1 16 (.string ⟨#[]⟩) := ⟨Try.t11, Try.type11, rfl, rfl, rfl⟩
instance g11 : TyG Try.prog 11 false 1 := ⟨_, Try.t11, Try.underlying11, Try.type11, rfl, rfl⟩
instance d12 : TyD Try.prog 12 (.int .u64) := ⟨Try.underlying12⟩
instance n12 : TyN Try.prog 12 1 8 (.int .u64 0) := ⟨Try.t12, Try.type12, rfl, rfl, rfl⟩
instance g12 : TyG Try.prog 12 false 1 := ⟨_, Try.t12, Try.underlying12, Try.type12, rfl, rfl⟩
instance n13 : TyN Try.prog 13 2 24 (.agg #[.string ⟨#[]⟩, .int .u64 0]) := ⟨Try.t13, Try.type13, rfl, rfl, rfl⟩
instance g13 : TyG Try.prog 13 true 2 := ⟨_, Try.t13, Try.underlying13, Try.type13, rfl, rfl⟩
instance f13_0 : TyF Try.prog 13 0 0 := ⟨_, _, Try.t9, Try.underlying13, rfl, rfl, Try.type9, by decide⟩
instance f13_1 : TyF Try.prog 13 1 1 := ⟨_, _, Try.t12, Try.underlying13, rfl, rfl, Try.type12, by decide⟩
instance b13 : TyB Try.prog 13 [(0, 1), (1, 1)] (.agg #[.string ⟨#[]⟩, .int .u64 0]) := ⟨Try.t13, Try.type13, rfl, .inl ⟨_, Try.underlying13, rfl⟩⟩
instance n14 : TyN Try.prog 14 2 24 (.agg #[.string ⟨#[]⟩, .int .u64 0]) := ⟨Try.t14, Try.type14, rfl, rfl, rfl⟩
instance g14 : TyG Try.prog 14 true 2 := ⟨_, Try.t14, Try.underlying14, Try.type14, rfl, rfl⟩
instance f14_0 : TyF Try.prog 14 0 0 := ⟨_, _, Try.t9, Try.underlying14, rfl, rfl, Try.type9, by decide⟩
instance f14_1 : TyF Try.prog 14 1 1 := ⟨_, _, Try.t12, Try.underlying14, rfl, rfl, Try.type12, by decide⟩
instance b14 : TyB Try.prog 14 [(0, 1), (1, 1)] (.agg #[.string ⟨#[]⟩, .int .u64 0]) := ⟨Try.t14, Try.type14, rfl, .inl ⟨_, Try.underlying14, rfl⟩⟩
instance d15 : TyD Try.prog 15 (.pointer 55) := ⟨Try.underlying15⟩
instance n15 : TyN Try.prog 15 1 8 (.pointer none) := ⟨Try.t15, Try.type15, rfl, rfl, rfl⟩
instance g15 : TyG Try.prog 15 false 1 := ⟨_, Try.t15, Try.underlying15, Try.type15, rfl, rfl⟩
instance d16 : TyD Try.prog 16 (.pointer 58) := ⟨Try.underlying16⟩
instance n16 : TyN Try.prog 16 1 8 (.pointer none) := ⟨Try.t16, Try.type16, rfl, rfl, rfl⟩
instance g16 : TyG Try.prog 16 false 1 := ⟨_, Try.t16, Try.underlying16, Try.type16, rfl, rfl⟩
instance d17 : TyD Try.prog 17 (.pointer 68) := ⟨Try.underlying17⟩
instance n17 : TyN Try.prog 17 1 8 (.pointer none) := ⟨Try.t17, Try.type17, rfl, rfl, rfl⟩
instance g17 : TyG Try.prog 17 false 1 := ⟨_, Try.t17, Try.underlying17, Try.type17, rfl, rfl⟩
instance n18 : TyN Try.prog 18 1 8 (.agg #[.pointer none]) := ⟨Try.t18, Try.type18, rfl, rfl, rfl⟩
instance g18 : TyG Try.prog 18 true 1 := ⟨_, Try.t18, Try.underlying18, Try.type18, rfl, rfl⟩
instance f18_0 : TyF Try.prog 18 0 0 := ⟨_, _, Try.t17, Try.underlying18, rfl, rfl, Try.type17, by decide⟩
instance b18 : TyB Try.prog 18 [(0, 1)] (.agg #[.pointer none]) := ⟨Try.t18, Try.type18, rfl, .inl ⟨_, Try.underlying18, rfl⟩⟩
instance n19 : TyN Try.prog 19 1 8 (.agg #[.pointer none]) := ⟨Try.t19, Try.type19, rfl, rfl, rfl⟩
instance g19 : TyG Try.prog 19 true 1 := ⟨_, Try.t19, Try.underlying19, Try.type19, rfl, rfl⟩
instance f19_0 : TyF Try.prog 19 0 0 := ⟨_, _, Try.t17, Try.underlying19, rfl, rfl, Try.type17, by decide⟩
instance b19 : TyB Try.prog 19 [(0, 1)] (.agg #[.pointer none]) := ⟨Try.t19, Try.type19, rfl, .inl ⟨_, Try.underlying19, rfl⟩⟩
instance n20 : TyN Try.prog 20 1 16 (.nilIface) := ⟨Try.t20, Try.type20, rfl, rfl, rfl⟩
instance g20 : TyG Try.prog 20 false 1 := ⟨_, Try.t20, Try.underlying20, Try.type20, rfl, rfl⟩
instance d21 : TyD Try.prog 21 (.int .i32) := ⟨Try.underlying21⟩
instance n21 : TyN Try.prog 21 1 4 (.int .i32 0) := ⟨Try.t21, Try.type21, rfl, rfl, rfl⟩
instance g21 : TyG Try.prog 21 false 1 := ⟨_, Try.t21, Try.underlying21, Try.type21, rfl, rfl⟩
instance d22 : TyD Try.prog 22 (.int .u64) := ⟨Try.underlying22⟩
instance n22 : TyN Try.prog 22 1 8 (.int .u64 0) := ⟨Try.t22, Try.type22, rfl, rfl, rfl⟩
instance g22 : TyG Try.prog 22 false 1 := ⟨_, Try.t22, Try.underlying22, Try.type22, rfl, rfl⟩
instance n23 : TyN Try.prog 23 4 32 (.agg #[.int .i64 0, .int .i64 0, .int .u64 0, .bool false]) := ⟨Try.t23, Try.type23, rfl, rfl, rfl⟩
instance g23 : TyG Try.prog 23 true 4 := ⟨_, Try.t23, Try.underlying23, Try.type23, rfl, rfl⟩
instance f23_0 : TyF Try.prog 23 0 0 := ⟨_, _, Try.t3, Try.underlying23, rfl, rfl, Try.type3, by decide⟩
instance f23_1 : TyF Try.prog 23 1 1 := ⟨_, _, Try.t3, Try.underlying23, rfl, rfl, Try.type3, by decide⟩
instance f23_2 : TyF Try.prog 23 2 2 := ⟨_, _, Try.t22, Try.underlying23, rfl, rfl, Try.type22, by decide⟩
instance f23_3 : TyF Try.prog 23 3 3 := ⟨_, _, Try.t4, Try.underlying23, rfl, rfl, Try.type4, by decide⟩
instance b23 : TyB Try.prog 23 [(0, 1), (1, 1), (2, 1), (3, 1)] (.agg #[.int .i64 0, .int .i64 0, .int .u64 0, .bool false]) := ⟨Try.t23, Try.type23, rfl, .inl ⟨_, Try.underlying23, rfl⟩⟩
instance n24 : TyN Try.prog 24 4 32 (.agg #[.int .i64 0, .int .i64 0, .int .u64 0, .bool false]) := ⟨Try.t24, Try.type24, rfl, rfl, rfl⟩
instance g24 : TyG Try.prog 24 true 4 := ⟨_, Try.t24, Try.underlying24, Try.type24, rfl, rfl⟩
instance f24_0 : TyF Try.prog 24 0 0 := ⟨_, _, Try.t3, Try.underlying24, rfl, rfl, Try.type3, by decide⟩
instance f24_1 : TyF Try.prog 24 1 1 := ⟨_, _, Try.t3, Try.underlying24, rfl, rfl, Try.type3, by decide⟩
instance f24_2 : TyF Try.prog 24 2 2 := ⟨_, _, Try.t22, Try.underlying24, rfl, rfl, Try.type22, by decide⟩
instance f24_3 : TyF Try.prog 24 3 3 := ⟨_, _, Try.t4, Try.underlying24, rfl, rfl, Try.type4, by decide⟩
instance b24 : TyB Try.prog 24 [(0, 1), (1, 1), (2, 1), (3, 1)] (.agg #[.int .i64 0, .int .i64 0, .int .u64 0, .bool false]) := ⟨Try.t24, Try.type24, rfl, .inl ⟨_, Try.underlying24, rfl⟩⟩
instance d25 : TyD Try.prog 25 (.slice 3) := ⟨Try.underlying25⟩
instance n25 : TyN Try.prog 25 1 24 (.slice none 0 0) := ⟨Try.t25, Try.type25, rfl, rfl, rfl⟩
instance g25 : TyG Try.prog 25 false 1 := ⟨_, Try.t25, Try.underlying25, Try.type25, rfl, rfl⟩
instance s25 : TyS Try.prog 25 3 1 8 (.int .i64 0) := ⟨Try.underlying25, Try.t3, Try.type3, rfl, rfl, rfl⟩
instance n26 : TyN Try.prog 26 1 8 (.nilFunc) := ⟨Try.t26, Try.type26, rfl, rfl, rfl⟩
instance g26 : TyG Try.prog 26 false 1 := ⟨_, Try.t26, Try.underlying26, Try.type26, rfl, rfl⟩
instance d27 : TyD Try.prog 27 (.pointer 48) := ⟨Try.underlying27⟩
instance n27 : TyN Try.prog 27 1 8 (.pointer none) := ⟨Try.t27, Try.type27, rfl, rfl, rfl⟩
instance g27 : TyG Try.prog 27 false 1 := ⟨_, Try.t27, Try.underlying27, Try.type27, rfl, rfl⟩
instance n28 : TyN Try.prog 28 1 8 (.nilFunc) := ⟨Try.t28, Try.type28, rfl, rfl, rfl⟩
instance g28 : TyG Try.prog 28 false 1 := ⟨_, Try.t28, Try.underlying28, Try.type28, rfl, rfl⟩
instance n29 : TyN Try.prog 29 1 8 (.nilFunc) := ⟨Try.t29, Try.type29, rfl, rfl, rfl⟩
instance g29 : TyG Try.prog 29 false 1 := ⟨_, Try.t29, Try.underlying29, Try.type29, rfl, rfl⟩
instance d30 : TyD Try.prog 30 (.slice 24) := ⟨Try.underlying30⟩
instance n30 : TyN Try.prog 30 1 24 (.slice none 0 0) := ⟨Try.t30, Try.type30, rfl, rfl, rfl⟩
instance g30 : TyG Try.prog 30 false 1 := ⟨_, Try.t30, Try.underlying30, Try.type30, rfl, rfl⟩
instance s30 : TyS Try.prog 30 24 4 32 (.agg #[.int .i64 0, .int .i64 0, .int .u64 0, .bool false]) := ⟨Try.underlying30, Try.t24, Try.type24, rfl, rfl, rfl⟩
instance n31 : TyN Try.prog 31 1 8 (.nilFunc) := ⟨Try.t31, Try.type31, rfl, rfl, rfl⟩
instance g31 : TyG Try.prog 31 false 1 := ⟨_, Try.t31, Try.underlying31, Try.type31, rfl, rfl⟩
instance d32 : TyD Try.prog 32 (.int .i64) := ⟨Try.underlying32⟩
instance n32 : TyN Try.prog 32 1 8 (.int .i64 0) := ⟨Try.t32, Try.type32, rfl, rfl, rfl⟩
instance g32 : TyG Try.prog 32 false 1 := ⟨_, Try.t32, Try.underlying32, Try.type32, rfl, rfl⟩
instance n34 : TyN Try.prog 34 1 8 (.nilFunc) := ⟨Try.t34, Try.type34, rfl, rfl, rfl⟩
instance g34 : TyG Try.prog 34 false 1 := ⟨_, Try.t34, Try.underlying34, Try.type34, rfl, rfl⟩
instance n35 : TyN Try.prog 35 1 8 (.nilFunc) := ⟨Try.t35, Try.type35, rfl, rfl, rfl⟩
instance g35 : TyG Try.prog 35 false 1 := ⟨_, Try.t35, Try.underlying35, Try.type35, rfl, rfl⟩
instance n36 : TyN Try.prog 36 1 8 (.nilFunc) := ⟨Try.t36, Try.type36, rfl, rfl, rfl⟩
instance g36 : TyG Try.prog 36 false 1 := ⟨_, Try.t36, Try.underlying36, Try.type36, rfl, rfl⟩
instance n37 : TyN Try.prog 37 1 8 (.nilFunc) := ⟨Try.t37, Try.type37, rfl, rfl, rfl⟩
instance g37 : TyG Try.prog 37 false 1 := ⟨_, Try.t37, Try.underlying37, Try.type37, rfl, rfl⟩
instance n38 : TyN Try.prog 38 1 8 (.nilFunc) := ⟨Try.t38, Try.type38, rfl, rfl, rfl⟩
instance g38 : TyG Try.prog 38 false 1 := ⟨_, Try.t38, Try.underlying38, Try.type38, rfl, rfl⟩
instance d39 : TyD Try.prog 39 (.map 3 4) := ⟨Try.underlying39⟩
instance n39 : TyN Try.prog 39 1 8 (.map none) := ⟨Try.t39, Try.type39, rfl, rfl, rfl⟩
instance g39 : TyG Try.prog 39 false 1 := ⟨_, Try.t39, Try.underlying39, Try.type39, rfl, rfl⟩
instance n40 : TyN Try.prog 40 1 8 (.nilFunc) := ⟨Try.t40, Try.type40, rfl, rfl, rfl⟩
instance g40 : TyG Try.prog 40 false 1 := ⟨_, Try.t40, Try.underlying40, Try.type40, rfl, rfl⟩
instance n41 : TyN Try.prog 41 1 8 (.nilFunc) := ⟨Try.t41, Try.type41, rfl, rfl, rfl⟩
instance g41 : TyG Try.prog 41 false 1 := ⟨_, Try.t41, Try.underlying41, Try.type41, rfl, rfl⟩
instance n42 : TyN Try.prog 42 1 8 (.nilFunc) := ⟨Try.t42, Try.type42, rfl, rfl, rfl⟩
instance g42 : TyG Try.prog 42 false 1 := ⟨_, Try.t42, Try.underlying42, Try.type42, rfl, rfl⟩
instance n43 : TyN Try.prog 43 1 8 (.nilFunc) := ⟨Try.t43, Try.type43, rfl, rfl, rfl⟩
instance g43 : TyG Try.prog 43 false 1 := ⟨_, Try.t43, Try.underlying43, Try.type43, rfl, rfl⟩
instance n44 : TyN Try.prog 44 1 8 (.nilFunc) := ⟨Try.t44, Try.type44, rfl, rfl, rfl⟩
instance g44 : TyG Try.prog 44 false 1 := ⟨_, Try.t44, Try.underlying44, Try.type44, rfl, rfl⟩
instance n45 : TyN Try.prog 45 1 8 (.nilFunc) := ⟨Try.t45, Try.type45, rfl, rfl, rfl⟩
instance g45 : TyG Try.prog 45 false 1 := ⟨_, Try.t45, Try.underlying45, Try.type45, rfl, rfl⟩
instance n46 : TyN Try.prog 46 1 8 (.nilFunc) := ⟨Try.t46, Try.type46, rfl, rfl, rfl⟩
instance g46 : TyG Try.prog 46 false 1 := ⟨_, Try.t46, Try.underlying46, Try.type46, rfl, rfl⟩
instance n47 : TyN Try.prog 47 2 32 (.agg #[.slice none 0 0, .int .i64 0]) := ⟨Try.t47, Try.type47, rfl, rfl, rfl⟩
instance g47 : TyG Try.prog 47 true 2 := ⟨_, Try.t47, Try.underlying47, Try.type47, rfl, rfl⟩
instance f47_0 : TyF Try.prog 47 0 0 := ⟨_, _, Try.t25, Try.underlying47, rfl, rfl, Try.type25, by decide⟩
instance f47_1 : TyF Try.prog 47 1 1 := ⟨_, _, Try.t3, Try.underlying47, rfl, rfl, Try.type3, by decide⟩
instance b47 : TyB Try.prog 47 [(0, 1), (1, 1)] (.agg #[.slice none 0 0, .int .i64 0]) := ⟨Try.t47, Try.type47, rfl, .inl ⟨_, Try.underlying47, rfl⟩⟩
instance n48 : TyN Try.prog 48 2 32 (.agg #[.slice none 0 0, .int .i64 0]) := ⟨Try.t48, Try.type48, rfl, rfl, rfl⟩
instance g48 : TyG Try.prog 48 true 2 := ⟨_, Try.t48, Try.underlying48, Try.type48, rfl, rfl⟩
instance f48_0 : TyF Try.prog 48 0 0 := ⟨_, _, Try.t25, Try.underlying48, rfl, rfl, Try.type25, by decide⟩
instance f48_1 : TyF Try.prog 48 1 1 := ⟨_, _, Try.t3, Try.underlying48, rfl, rfl, Try.type3, by decide⟩
instance b48 : TyB Try.prog 48 [(0, 1), (1, 1)] (.agg #[.slice none 0 0, .int .i64 0]) := ⟨Try.t48, Try.type48, rfl, .inl ⟨_, Try.underlying48, rfl⟩⟩
instance n49 : TyN Try.prog 49 1 8 (.nilFunc) := ⟨Try.t49, Try.type49, rfl, rfl, rfl⟩
instance g49 : TyG Try.prog 49 false 1 := ⟨_, Try.t49, Try.underlying49, Try.type49, rfl, rfl⟩
instance n50 : TyN Try.prog 50 1 8 (.nilFunc) := ⟨Try.t50, Try.type50, rfl, rfl, rfl⟩
instance g50 : TyG Try.prog 50 false 1 := ⟨_, Try.t50, Try.underlying50, Try.type50, rfl, rfl⟩
instance n51 : TyN Try.prog 51 1 8 (.nilFunc) := ⟨Try.t51, Try.type51, rfl, rfl, rfl⟩
instance g51 : TyG Try.prog 51 false 1 := ⟨_, Try.t51, Try.underlying51, Try.type51, rfl, rfl⟩
instance d52 : TyD Try.prog 52 (.int .u64) := ⟨Try.underlying52⟩
instance n52 : TyN Try.prog 52 1 8 (.int .u64 0) := ⟨Try.t52, Try.type52, rfl, rfl, rfl⟩
instance g52 : TyG Try.prog 52 false 1 := ⟨_, Try.t52, Try.underlying52, Try.type52, rfl, rfl⟩
instance n53 : TyN Try.prog 53 1 8 (.nilFunc) := ⟨Try.t53, Try.type53, rfl, rfl, rfl⟩
instance g53 : TyG Try.prog 53 false 1 := ⟨_, Try.t53, Try.underlying53, Try.type53, rfl, rfl⟩
instance n54 : TyN Try.prog 54 4 40 (.agg #[.pointer none, .pointer none, .pointer none, .string ⟨#[]⟩]) := ⟨Try.t54, Try.type54, rfl, rfl, rfl⟩
instance g54 : TyG Try.prog 54 true 4 := ⟨_, Try.t54, Try.underlying54, Try.type54, rfl, rfl⟩
instance f54_0 : TyF Try.prog 54 0 0 := ⟨_, _, Try.t17, Try.underlying54, rfl, rfl, Try.type17, by decide⟩
instance f54_1 : TyF Try.prog 54 1 1 := ⟨_, _, Try.t17, Try.underlying54, rfl, rfl, Try.type17, by decide⟩
instance f54_2 : TyF Try.prog 54 2 2 := ⟨_, _, Try.t17, Try.underlying54, rfl, rfl, Try.type17, by decide⟩
instance f54_3 : TyF Try.prog 54 3 3 := ⟨_, _, Try.t9, Try.underlying54, rfl, rfl, Try.type9, by decide⟩
instance b54 : TyB Try.prog 54 [(0, 1), (1, 1), (2, 1), (3, 1)] (.agg #[.pointer none, .pointer none, .pointer none, .string ⟨#[]⟩]) := ⟨Try.t54, Try.type54, rfl, .inl ⟨_, Try.underlying54, rfl⟩⟩
instance n55 : TyN Try.prog 55 4 40 (.agg #[.pointer none, .pointer none, .pointer none, .string ⟨#[]⟩]) := ⟨Try.t55, Try.type55, rfl, rfl, rfl⟩
instance g55 : TyG Try.prog 55 true 4 := ⟨_, Try.t55, Try.underlying55, Try.type55, rfl, rfl⟩
instance f55_0 : TyF Try.prog 55 0 0 := ⟨_, _, Try.t17, Try.underlying55, rfl, rfl, Try.type17, by decide⟩
instance f55_1 : TyF Try.prog 55 1 1 := ⟨_, _, Try.t17, Try.underlying55, rfl, rfl, Try.type17, by decide⟩
instance f55_2 : TyF Try.prog 55 2 2 := ⟨_, _, Try.t17, Try.underlying55, rfl, rfl, Try.type17, by decide⟩
instance f55_3 : TyF Try.prog 55 3 3 := ⟨_, _, Try.t9, Try.underlying55, rfl, rfl, Try.type9, by decide⟩
instance b55 : TyB Try.prog 55 [(0, 1), (1, 1), (2, 1), (3, 1)] (.agg #[.pointer none, .pointer none, .pointer none, .string ⟨#[]⟩]) := ⟨Try.t55, Try.type55, rfl, .inl ⟨_, Try.underlying55, rfl⟩⟩
instance d56 : TyD Try.prog 56 (.array 0 16) := ⟨Try.underlying56⟩
instance n56 : TyN Try.prog 56 0 0 (.agg #[]) := ⟨Try.t56, Try.type56, rfl, rfl, rfl⟩
instance g56 : TyG Try.prog 56 true 0 := ⟨_, Try.t56, Try.underlying56, Try.type56, rfl, rfl⟩
instance l56 : TyL Try.prog 56 0 1 := ⟨16, Try.t16, Try.underlying56, Try.type16, rfl⟩
instance b56 : TyB Try.prog 56 [] (.agg #[]) := ⟨Try.t56, Try.type56, rfl, .inr ⟨0, 16, Try.t16, Try.underlying56, Try.type16, rfl⟩⟩
instance n57 : TyN Try.prog 57 0 0 (.agg #[]) := ⟨Try.t57, Try.type57, rfl, rfl, rfl⟩
instance g57 : TyG Try.prog 57 true 0 := ⟨_, Try.t57, Try.underlying57, Try.type57, rfl, rfl⟩
instance b57 : TyB Try.prog 57 [(0, 0)] (.agg #[]) := ⟨Try.t57, Try.type57, rfl, .inl ⟨_, Try.underlying57, rfl⟩⟩
instance n58 : TyN Try.prog 58 0 0 (.agg #[]) := ⟨Try.t58, Try.type58, rfl, rfl, rfl⟩
instance g58 : TyG Try.prog 58 true 0 := ⟨_, Try.t58, Try.underlying58, Try.type58, rfl, rfl⟩
instance b58 : TyB Try.prog 58 [(0, 0)] (.agg #[]) := ⟨Try.t58, Try.type58, rfl, .inl ⟨_, Try.underlying58, rfl⟩⟩
instance n59 : TyN Try.prog 59 1 8 (.nilFunc) := ⟨Try.t59, Try.type59, rfl, rfl, rfl⟩
instance g59 : TyG Try.prog 59 false 1 := ⟨_, Try.t59, Try.underlying59, Try.type59, rfl, rfl⟩
instance d60 : TyD Try.prog 60 (.int .u32) := ⟨Try.underlying60⟩
instance n60 : TyN Try.prog 60 1 4 (.int .u32 0) := ⟨Try.t60, Try.type60, rfl, rfl, rfl⟩
instance g60 : TyG Try.prog 60 false 1 := ⟨_, Try.t60, Try.underlying60, Try.type60, rfl, rfl⟩
instance d61 : TyD Try.prog 61 (.int .u8) := ⟨Try.underlying61⟩
instance n61 : TyN Try.prog 61 1 1 (.int .u8 0) := ⟨Try.t61, Try.type61, rfl, rfl, rfl⟩
instance g61 : TyG Try.prog 61 false 1 := ⟨_, Try.t61, Try.underlying61, Try.type61, rfl, rfl⟩
instance d62 : TyD Try.prog 62 (.int .u8) := ⟨Try.underlying62⟩
instance n62 : TyN Try.prog 62 1 1 (.int .u8 0) := ⟨Try.t62, Try.type62, rfl, rfl, rfl⟩
instance g62 : TyG Try.prog 62 false 1 := ⟨_, Try.t62, Try.underlying62, Try.type62, rfl, rfl⟩
instance n63 : TyN Try.prog 63 1 8 (.nilFunc) := ⟨Try.t63, Try.type63, rfl, rfl, rfl⟩
instance g63 : TyG Try.prog 63 false 1 := ⟨_, Try.t63, Try.underlying63, Try.type63, rfl, rfl⟩
instance d64 : TyD Try.prog 64 (.pointer 5) := ⟨Try.underlying64⟩
instance n64 : TyN Try.prog 64 1 8 (.pointer none) := ⟨Try.t64, Try.type64, rfl, rfl, rfl⟩
instance g64 : TyG Try.prog 64 false 1 := ⟨_, Try.t64, Try.underlying64, Try.type64, rfl, rfl⟩
instance d65 : TyD Try.prog 65 (.int .i32) := ⟨Try.underlying65⟩
instance n65 : TyN Try.prog 65 1 4 (.int .i32 0) := ⟨Try.t65, Try.type65, rfl, rfl, rfl⟩
instance g65 : TyG Try.prog 65 false 1 := ⟨_, Try.t65, Try.underlying65, Try.type65, rfl, rfl⟩
instance d66 : TyD Try.prog 66 (.int .i32) := ⟨Try.underlying66⟩
instance n66 : TyN Try.prog 66 1 4 (.int .i32 0) := ⟨Try.t66, Try.type66, rfl, rfl, rfl⟩
instance g66 : TyG Try.prog 66 false 1 := ⟨_, Try.t66, Try.underlying66, Try.type66, rfl, rfl⟩
instance n67 : TyN Try.prog 67 11 48 (.agg #[.int .u64 0, .int .u64 0, .int .u32 0, .int .u8 0, .int .u8 0, .int .u8 0, .int .u8 0, .nilFunc, .pointer none, .int .i32 0, .int .i32 0]) := ⟨Try.t67, Try.type67, rfl, rfl, rfl⟩
instance g67 : TyG Try.prog 67 true 11 := ⟨_, Try.t67, Try.underlying67, Try.type67, rfl, rfl⟩
instance f67_0 : TyF Try.prog 67 0 0 := ⟨_, _, Try.t12, Try.underlying67, rfl, rfl, Try.type12, by decide⟩
instance f67_1 : TyF Try.prog 67 1 1 := ⟨_, _, Try.t12, Try.underlying67, rfl, rfl, Try.type12, by decide⟩
instance f67_2 : TyF Try.prog 67 2 2 := ⟨_, _, Try.t60, Try.underlying67, rfl, rfl, Try.type60, by decide⟩
instance f67_3 : TyF Try.prog 67 3 3 := ⟨_, _, Try.t61, Try.underlying67, rfl, rfl, Try.type61, by decide⟩
instance f67_4 : TyF Try.prog 67 4 4 := ⟨_, _, Try.t5, Try.underlying67, rfl, rfl, Try.type5, by decide⟩
instance f67_5 : TyF Try.prog 67 5 5 := ⟨_, _, Try.t5, Try.underlying67, rfl, rfl, Try.type5, by decide⟩
instance f67_6 : TyF Try.prog 67 6 6 := ⟨_, _, Try.t62, Try.underlying67, rfl, rfl, Try.type62, by decide⟩
instance f67_7 : TyF Try.prog 67 7 7 := ⟨_, _, Try.t63, Try.underlying67, rfl, rfl, Try.type63, by decide⟩
instance f67_8 : TyF Try.prog 67 8 8 := ⟨_, _, Try.t64, Try.underlying67, rfl, rfl, Try.type64, by decide⟩
instance f67_9 : TyF Try.prog 67 9 9 := ⟨_, _, Try.t65, Try.underlying67, rfl, rfl, Try.type65, by decide⟩
instance f67_10 : TyF Try.prog 67 10 10 := ⟨_, _, Try.t66, Try.underlying67, rfl, rfl, Try.type66, by decide⟩
instance b67 : TyB Try.prog 67 [(0, 1), (1, 1), (2, 1), (3, 1), (4, 1), (5, 1), (6, 1), (7, 1), (8, 1), (9, 1), (10, 1)] (.agg #[.int .u64 0, .int .u64 0, .int .u32 0, .int .u8 0, .int .u8 0, .int .u8 0, .int .u8 0, .nilFunc, .pointer none, .int .i32 0, .int .i32 0]) := ⟨Try.t67, Try.type67, rfl, .inl ⟨_, Try.underlying67, rfl⟩⟩
instance n68 : TyN Try.prog 68 11 48 (.agg #[.int .u64 0, .int .u64 0, .int .u32 0, .int .u8 0, .int .u8 0, .int .u8 0, .int .u8 0, .nilFunc, .pointer none, .int .i32 0, .int .i32 0]) := ⟨Try.t68, Try.type68, rfl, rfl, rfl⟩
instance g68 : TyG Try.prog 68 true 11 := ⟨_, Try.t68, Try.underlying68, Try.type68, rfl, rfl⟩
instance f68_0 : TyF Try.prog 68 0 0 := ⟨_, _, Try.t12, Try.underlying68, rfl, rfl, Try.type12, by decide⟩
instance f68_1 : TyF Try.prog 68 1 1 := ⟨_, _, Try.t12, Try.underlying68, rfl, rfl, Try.type12, by decide⟩
instance f68_2 : TyF Try.prog 68 2 2 := ⟨_, _, Try.t60, Try.underlying68, rfl, rfl, Try.type60, by decide⟩
instance f68_3 : TyF Try.prog 68 3 3 := ⟨_, _, Try.t61, Try.underlying68, rfl, rfl, Try.type61, by decide⟩
instance f68_4 : TyF Try.prog 68 4 4 := ⟨_, _, Try.t5, Try.underlying68, rfl, rfl, Try.type5, by decide⟩
instance f68_5 : TyF Try.prog 68 5 5 := ⟨_, _, Try.t5, Try.underlying68, rfl, rfl, Try.type5, by decide⟩
instance f68_6 : TyF Try.prog 68 6 6 := ⟨_, _, Try.t62, Try.underlying68, rfl, rfl, Try.type62, by decide⟩
instance f68_7 : TyF Try.prog 68 7 7 := ⟨_, _, Try.t63, Try.underlying68, rfl, rfl, Try.type63, by decide⟩
instance f68_8 : TyF Try.prog 68 8 8 := ⟨_, _, Try.t64, Try.underlying68, rfl, rfl, Try.type64, by decide⟩
instance f68_9 : TyF Try.prog 68 9 9 := ⟨_, _, Try.t65, Try.underlying68, rfl, rfl, Try.type65, by decide⟩
instance f68_10 : TyF Try.prog 68 10 10 := ⟨_, _, Try.t66, Try.underlying68, rfl, rfl, Try.type66, by decide⟩
instance b68 : TyB Try.prog 68 [(0, 1), (1, 1), (2, 1), (3, 1), (4, 1), (5, 1), (6, 1), (7, 1), (8, 1), (9, 1), (10, 1)] (.agg #[.int .u64 0, .int .u64 0, .int .u32 0, .int .u8 0, .int .u8 0, .int .u8 0, .int .u8 0, .nilFunc, .pointer none, .int .i32 0, .int .i32 0]) := ⟨Try.t68, Try.type68, rfl, .inl ⟨_, Try.underlying68, rfl⟩⟩
end Go.Proofs.Ytjmkoelmiehdjaa.A

namespace Go.Proofs.Ytjmkoelmiehdjaa.A
open Go.RowKit L
set_option linter.unusedVariables false
set_option linter.unusedSimpArgs false

section
variable {Γ : Cx} {P : Program} {Q : Exit → Act → World → Prop} {E : Env} {H : List HE} {N : Nat} {o : Oper} {ops : Array Oper} {rest : List Oper}

theorem AO.opB {d T room : Nat} {v : Nat → AV} {xs : List AV} (h : OpW P Γ.N o E H (NewBlk v T room xs)) (hw : wantedIs ops E o = some true) (hd : o.dst = some d) (hN : Nat.ble (d + 1) Γ.N = true) (k : ∀ b, AO Γ P ops Q rest ((d, v b) :: E) (.blk b T room xs :: H)) :
    AO Γ P ops Q (o :: rest) E H := AO.opN h hw hd hN (by rintro _ _ ⟨b, rfl, rfl⟩; exact k b)
theorem wI64 {x : Int} (h : -9223372036854775808 ≤ x ∧ x ≤ 9223372036854775807) : IntKind.i64.wrap x = x := IntWalk.i64_in _ h
theorem bTrue {p : Prop} [Decidable p] (h : p) : decide p = true := decide_eq_true h
theorem bFalse {p : Prop} [Decidable p] (h : ¬ p) : decide p = false := decide_eq_false h

/-- 'nil' reads as nothing. -/
theorem RelV.nilRo {R : Nat → Prop} {W : World} {u : Value} (h : RelV R W (.val (.slice none 0 0)) u) : RelV R W (.ro false 0 []) u := by
  rw [h.val_inv]; exact .emp _ _ _ (fun h => by cases h) (Nat.zero_le _)
theorem RelV.unfull {R : Nat → Prop} {W : World} {full : Bool} {n : Nat} {xs : List AV} {u : Value} (h : RelV R W (.ro full n xs) u) : RelV R W (.ro false n xs) u := by
  cases h with
  | emp _ a cap h1 h2 => exact .emp _ a cap (fun h => by cases h) h2
  | ro _ _ _ b off cap us hb hc hr h1 h2 h3 => exact .ro _ _ _ b off cap us hb hc hr h1 h2 (fun h => by cases h)
theorem RelA.shadow {R : Nat → Prop} {W : World} {a : Act} (ha : RelA N R W E a) {t : Nat} {w : AV} (h : RelV R W w (a.eval (.tmp t))) : RelA N R W ((t, w) :: E) a :=
  ⟨ha.defers, ha.size, fun s v hs => by
    unfold look at hs
    cases hb : Nat.beq t s with
    | true => rw [hb] at hs; cases hs; have := Nat.eq_of_beq_eq_true hb; subst this; exact h
    | false => rw [hb] at hs; exact ha.slots s v hs⟩
theorem G.nilRo {X : Act → World → Prop} (t : Nat) (ht : look E t = some (.val (.slice none 0 0))) (k : G Γ ((t, .ro false 0 []) :: E) H X) : G Γ E H X := fun R a W hs ha =>
  k R a W hs (ha.shadow (ha.slots t _ ht).nilRo)
theorem G.unfull {X : Act → World → Prop} (t : Nat) {full : Bool} {n : Nat} {xs : List AV} (ht : look E t = some (.ro full n xs)) (k : G Γ ((t, .ro false n xs) :: E) H X) : G Γ E H X := fun R a W hs ha =>
  k R a W hs (ha.shadow (ha.slots t _ ht).unfull)

/-- The bool of a temporary, either way. -/
theorem G.split {X : Act → World → Prop} (t : Nat) {b : Bool} (ht : look E t = some (.val (.bool b))) (k1 : b = true → G Γ ((t, .val (.bool true)) :: E) H X) (k2 : b = false → G Γ ((t, .val (.bool false)) :: E) H X) : G Γ E H X := fun R a W hs ha => by
  have hv := (ha.slots t _ ht).val_inv
  cases b
  · exact k2 rfl R a W hs (ha.shadow (by rw [hv]; exact .val _))
  · exact k1 rfl R a W hs (ha.shadow (by rw [hv]; exact .val _))
def guardSlot (ops : Array Oper) (o : Oper) : Option Nat := match o.guard with | none => none | some (g, _) => (ops[g]?).bind (·.dst)
theorem AW.split {t : Nat} {b : Bool} {x y : Code} (ht : look E t = some (.val (.bool b))) (k1 : b = true → AW Γ P Q x E H) (k2 : b = false → AW Γ P Q y E H) : AW Γ P Q (.cond (.tmp t) x y) E H := AW.cond b ht k1 k2

theorem envNil {P : Nat × AV → Prop} : ∀ p ∈ ([] : Env), P p := fun _ h => by cases h
theorem envCons {t : Nat} {v : AV} {r : Env} (h : look E t = some v) (hr : ∀ p ∈ r, look E p.1 = some p.2) : ∀ p ∈ (t, v) :: r, look E p.1 = some p.2 := fun p hp => by
  rcases List.mem_cons.1 hp with rfl | hp
  · exact h
  · exact hr p hp

end
end Go.Proofs.Ytjmkoelmiehdjaa.A
