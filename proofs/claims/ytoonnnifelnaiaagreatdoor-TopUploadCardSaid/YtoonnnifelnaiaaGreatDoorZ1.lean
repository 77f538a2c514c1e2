/-
  Texts laid together (part 1): what the statement's walk and plain law need. No condition.
-/
import Derived.Test.YtoonnnifelnaiaaGreatDoorRows
import Derived.WalkKit
import Derived.ProofKit
import Derived.OpenShut
import Derived.JoinedCond
import Derived.WalkLawsBesides
import Derived.WalkSpells
import Derived.Handy
import Derived.Lib.Hide
import Derived.Deep.QuietTactic
import Derived.BigQuiet
import Derived.Deep.RegionHeld3
import Derived.Deep.DeepCutAuto
import Derived.Deep.DeepFit
import Derived.Maps.AppendAt
import Derived.Laws.CopyRow
import Derived.Deep.AppendSrc
import Derived.Deep.Upon
import Derived.Great.BuildSlice
namespace Go.Proofs.YtoonnnifelnaiaaGreatDoor.L
open Go.RowKit
set_option linter.unusedVariables false
set_option maxRecDepth 20000

/-- Of the blocks that were there, only those of which S holds may differ. -/
structure Mods (S : Nat → Prop) (w w' : World) : Prop where
 os : w'.os = w.os
 tape : w'.tape = w.tape
 output : w'.output = w.output
 size : w.heap.size ≤ w'.heap.size
 block : ∀ k, k < w.heap.size → ¬ S k → w'.heap[k]? = w.heap[k]?

theorem Mods.refl (S : Nat → Prop) (w : World) : Mods S w w := ⟨rfl, rfl, rfl, Nat.le_refl _, fun _ _ _ => rfl⟩

theorem Mods.trans {S : Nat → Prop} {a b c : World} (h : Mods S a b) (k : Mods S b c) : Mods S a c :=
 ⟨k.os.trans h.os, k.tape.trans h.tape, k.output.trans h.output, Nat.le_trans h.size k.size, fun i hi hs => (k.block i (Nat.lt_of_lt_of_le hi h.size) hs).trans (h.block i hi hs)⟩

theorem Mods.mono {S T : Nat → Prop} {w w' : World} (h : Mods S w w') (hs : ∀ k, k < w.heap.size → S k → T k) : Mods T w w' :=
 ⟨h.os, h.tape, h.output, h.size, fun k hk ht => h.block k hk (fun hh => ht (hs k hk hh))⟩

/-- A second step may change, besides, blocks that came with the first. -/
theorem Mods.then {S T : Nat → Prop} {a b c : World} (h : Mods S a b) (k : Mods T b c) (hs : ∀ i, i < a.heap.size → T i → S i) : Mods S a c :=
 ⟨k.os.trans h.os, k.tape.trans h.tape, k.output.trans h.output, Nat.le_trans h.size k.size,
  fun i hi hn => (k.block i (Nat.lt_of_lt_of_le hi h.size) (fun ht => hn (hs i hi ht))).trans (h.block i hi hn)⟩

theorem Mods.drew {S : Nat → Prop} {a w : World} (h : Mods S a w) : Mods S a w.drew := ⟨h.os, h.tape, h.output, h.size, h.block⟩
theorem Mods.alloc {S : Nat → Prop} {a w : World} (h : Mods S a w) (o : Obj) : Mods S a (w.alloc o) :=
 ⟨h.os, h.tape, h.output, Nat.le_trans h.size (by simp), fun k hk hs => (Below.heap_alloc w o k (Nat.lt_of_lt_of_le hk h.size)).trans (h.block k hk hs)⟩

theorem Mods.grown {S : Nat → Prop} {a w w' : World} {row : Option Nat} (h : Mods S a w) (hg : w.grownBy w' row) (hr : ∀ k, row = some k → k < a.heap.size → S k) : Mods S a w' :=
 ⟨hg.os.trans h.os, hg.tape.trans h.tape, hg.output.trans h.output, Nat.le_trans h.size hg.size,
  fun k hk hs => (hg.block k (Nat.lt_of_lt_of_le hk h.size) (fun e => hs (hr k e.symm hk))).trans (h.block k hk hs)⟩

theorem Mods.toBelow {S : Nat → Prop} {w w' : World} {B : Nat} (h : Mods S w w') (hB : B ≤ w.heap.size) (hS : ∀ k, S k → B ≤ k) : Below B w w' :=
 ⟨h.os, h.tape, h.output, h.size, fun k hk => h.block k (Nat.lt_of_lt_of_le hk hB) (fun hs => by have := hS k hs; omega)⟩

/-- Nothing that was there differs. -/
abbrev Ext (w w' : World) : Prop := Mods (fun _ => False) w w'

theorem Ext.any {S : Nat → Prop} {w w' : World} (h : Ext w w') : Mods S w w' := h.mono (fun _ _ hh => hh.elim)
theorem Ext.toBelow {w w' : World} (h : Ext w w') : Below w.heap.size w w' := Mods.toBelow h (Nat.le_refl _) (fun _ hh => hh.elim)

theorem Mods.cell {S : Nat → Prop} {w w' : World} (h : Mods S w w') {p : Addr} (hp : p.block < w.heap.size) (hs : ¬ S p.block) : w'.cell? p = w.cell? p :=
 World.cell?_of_block (w := w) (h.block p.block hp hs)
theorem Mods.frozen {S : Nat → Prop} {w w' : World} (h : Mods S w w') {p : Addr} (hp : p.block < w.heap.size) (hs : ¬ S p.block) : w'.frozen? p = w.frozen? p :=
 World.frozen?_of_block (w := w) (h.block p.block hp hs)

/-- What the walk needs behind a call that leaves all that was there as it was. -/
theorem Ext.cells {w w' : World} (h : Ext w w') : (∀ b o, b < w.heap.size → w'.cell? ⟨b, o, none⟩ = w.cell? ⟨b, o, none⟩) ∧ (∀ b o, b < w.heap.size → w'.frozen? ⟨b, o, none⟩ = w.frozen? ⟨b, o, none⟩) ∧ w.heap.size ≤ w'.heap.size :=
 ⟨fun b o hb => h.cell (p := ⟨b, o, none⟩) hb (fun hh => hh), fun b o hb => h.frozen (p := ⟨b, o, none⟩) hb (fun hh => hh), h.size⟩

/-- The cells from an address on are these. -/
def rowAt (w : World) (b off : Nat) (xs : List Value) : Prop := ∀ j, j < xs.length → w.cell? ⟨b, off + j, none⟩ = xs[j]?

/-- A slice of n elements that reads as these cells, in blocks of which F holds. -/
def reads (F : Nat → Prop) (w : World) (v : Value) (n : Nat) (xs : List Value) : Prop :=
 ∃ a cap, v = .slice a n cap ∧ n ≤ cap ∧ cap ≤ maxLen ∧ (xs = [] ∨ ∃ b off, a = some ⟨b, off, none⟩ ∧ F b ∧ rowAt w b off xs)

theorem rowAt.lt {w : World} {b off : Nat} {xs : List Value} (h : rowAt w b off xs) (hx : xs ≠ []) : b < w.heap.size := by
 have h0 := h 0 (by cases xs <;> simp_all)
 cases xs with
 | nil => exact absurd rfl hx
 | cons x r => exact World.block_lt_of_cell? w ⟨b, off + 0, none⟩ (u := x) (by simpa using h0)

theorem rowAt.mods {S : Nat → Prop} {w w' : World} {b off : Nat} {xs : List Value} (h : rowAt w b off xs) (hm : Mods S w w') (hs : ¬ S b) : rowAt w' b off xs := fun j hj => by
 rw [hm.cell (p := ⟨b, off + j, none⟩) (h.lt (by intro e; simp [e] at hj)) hs]; exact h j hj

theorem reads.mods {F S : Nat → Prop} {w w' : World} {v : Value} {n : Nat} {xs : List Value} (h : reads F w v n xs) (hm : Mods S w w') (hs : ∀ b, F b → ¬ S b) : reads F w' v n xs := by
 obtain ⟨a, cap, hv, h1, h2, h3⟩ := h
 refine ⟨a, cap, hv, h1, h2, h3.imp id ?_⟩
 rintro ⟨b, off, ha, hF, hr⟩
 exact ⟨b, off, ha, hF, hr.mods hm (hs b hF)⟩

theorem reads.ext {F : Nat → Prop} {w w' : World} {v : Value} {n : Nat} {xs : List Value} (h : reads F w v n xs) (hm : Ext w w') : reads F w' v n xs :=
 h.mods hm (fun _ _ hh => hh)

theorem reads.imp {F G : Nat → Prop} {w : World} {v : Value} {n : Nat} {xs : List Value} (h : reads F w v n xs) (hs : ∀ b, b < w.heap.size → F b → G b) : reads G w v n xs := by
 obtain ⟨a, cap, hv, h1, h2, h3⟩ := h
 refine ⟨a, cap, hv, h1, h2, ?_⟩
 rcases h3 with h3 | ⟨b, off, ha, hF, hr⟩
 ·exact .inl h3
 ·by_cases hx : xs = []
  ·exact .inl hx
  ·exact .inr ⟨b, off, ha, hs b (hr.lt hx) hF, hr⟩

/-- The element that an index names (rows of one cell). -/
theorem reads.at {F : Nat → Prop} {w : World} {v : Value} {n : Nat} {xs : List Value} (h : reads F w v n xs) (hn : 0 < xs.length) :
  ∃ b off cap, v = .slice (some ⟨b, off, none⟩) n cap ∧ n ≤ cap ∧ cap ≤ maxLen ∧ F b ∧ b < w.heap.size ∧ ∀ j, j < xs.length → w.cell? ⟨b, off + j, none⟩ = xs[j]? := by
 obtain ⟨a, cap, hv, h1, h2, h3⟩ := h
 rcases h3 with h3 | ⟨b, off, rfl, hF, hr⟩
 ·simp [h3] at hn
 ·exact ⟨b, off, cap, hv, h1, h2, hF, hr.lt (by intro e; simp [e] at hn), hr⟩


end Go.Proofs.YtoonnnifelnaiaaGreatDoor.L

namespace Go.Proofs.YtoonnnifelnaiaaGreatDoor.L
open Go.RowKit
set_option linter.unusedVariables false
set_option maxRecDepth 20000
set_option linter.unusedSimpArgs false

abbrev Pred := Value → World → Prop
def NoQ : Exit → Act → World → Prop := fun _ _ _ => False

def FHas (done : List (Tmp × Pred)) (ts : List Tmp) (A : Act) (W : World) : Prop := ∀ p ∈ done, p.1 ∈ ts → p.2 (A.eval (.tmp p.1)) W
def FOut (done : List (Tmp × Pred)) (ts : List Tmp) (a A : Act) : Prop := A.tmps.size = a.tmps.size ∧ ∀ t ∈ ts, t ∉ done.map (·.1) → A.eval (.tmp t) = a.eval (.tmp t)

def FStep (P : Program) (ops : Array Oper) (o : Oper) (A : Act) (W : World) (post : Value → World → Prop) : Prop :=
 if Region.wanted o (yielded ops A.tmps) then o.wp P A W (fun A' W' => ∃ v, A' = A.put o.dst v ∧ post v W') NoQ else post undef W

def Stable (φ : Pred) : Prop := ∀ v W W', φ v W → Ext W W' → φ v W'
def FlowGo (P : Program) (ops : Array Oper) (w0 : World) (a : Act) (K : List (Tmp × Pred) → Prop) : List (Tmp × Pred) → List Oper → Prop
 | done, [] => K done
 | done, o :: rest => ∃ (d : Tmp) (φ : Pred), o.dst = some d ∧ Stable φ ∧
   (∀ A W, Ext w0 W → FHas done (o.looksAt ops) A W → FOut done (o.looksAt ops) a A → FStep P ops o A W (fun v W' => Ext W W' ∧ φ v W')) ∧
   FlowGo P ops w0 a K ((d, φ) :: done) rest

def putAll (a : Act) (f : Tmp → Value) : List Tmp → Act
 | [] => a
 | t :: ts => (putAll a f ts).put (some t) (f t)

/-- Operation number i of the region: whoever writes a temporary that it looks at stands before it, and it waits for it; no two of the first n write one temporary; from n on each waits for all before it. -/
def flowOkAt (ops : Array Oper) (n i : Nat) (o : Oper) : Bool :=
 let waits := fun j => o.after.any fun e => Region.binds .any e && e.on == j
 (match o.op with | .select .. => false | _ => true) && (o.after.all fun e => !Region.binds .any e || decide (e.on < i)) &&
 if i < n then
  o.dst.isSome &&
  (List.range n).all (fun j => j == i || ((ops[j]?).all fun oj => (match oj.dst with | some d => o.dst != some d && (!(o.looksAt ops).contains d || (decide (j < i) && waits j)) | none => true)))
 else (List.range i).all waits

def flowOk (ops : Array Oper) (n : Nat) : Bool := decide (n ≤ ops.size) && (List.range ops.size).all fun i => (ops[i]?).all fun o => flowOkAt ops n i o

section
variable {P : Program} {ops : Array Oper} {Q : Exit → Act → World → Prop} {a : Act} {w0 : World}

theorem wp_of_noQ {o : Oper} {A : Act} {W : World} {K : Act → World → Prop} (h : o.wp P A W K NoQ) : o.wp P A W K Q := by
  unfold Oper.wp at *
  generalize (execOp A.eval o).run P W = r at *
  cases r with
  | ok n w' =>
    cases n <;> simp only [Oper.upon] at h ⊢ <;> first
      | exact h
      | (refine Calls.mono h fun e w'' he => ?_
         cases e with
         | returned v => exact he
         | panicked c => exact (he : False).elim
         | outgrown => obtain ⟨_, _, hh⟩ := he; exact (hh : False).elim)
  | halt x w' => cases x <;> simp only [Oper.upon] at h ⊢ <;> exact (h : False).elim

/-- What the operations hand on: to each its predicate. -/
def FlowAll (P : Program) (ops : Array Oper) (w0 : World) (a : Act) (n : Nat) (Φ : Nat → Pred) (D : Nat → Tmp) : Prop :=
 ∀ i, i < n → ∀ o, ops[i]? = some o → o.dst = some (D i) ∧ Stable (Φ i) ∧
  ∀ A W, Ext w0 W → A.tmps.size = a.tmps.size → (∀ j, j < i → D j ∈ o.looksAt ops → Φ j (A.eval (.tmp (D j))) W) → (∀ t ∈ o.looksAt ops, (∀ j, j < i → D j ≠ t) → A.eval (.tmp t) = a.eval (.tmp t)) →
   FStep P ops o A W (fun v W' => Ext W W' ∧ Φ i v W')

theorem any_mem {α : Type} {xs : Array α} {p : α → Bool} (h : xs.any p = true) : ∃ x ∈ xs, p x = true := by
 rw [← Array.any_toList] at h
 obtain ⟨x, hx, hp⟩ := List.any_eq_true.1 h
 exact ⟨x, by simpa using hx, hp⟩

theorem eval_put_same {A : Act} {d : Tmp} {v : Value} (h : d < A.tmps.size) : (A.put (some d) v).eval (.tmp d) = v := by
 simp [Act.eval, Act.put, h]
theorem eval_put_other {A : Act} {d t : Tmp} {v : Value} (h : d ≠ t) : (A.put (some d) v).eval (.tmp t) = A.eval (.tmp t) :=
 Act.eval_put fun d' hd e => h (by cases hd; injection e with e; exact e.symm)

theorem count_set_true (l : List Bool) (i : Nat) (h : i < l.length) (hf : l[i] = false) : (l.set i true).count false + 1 = l.count false := by
 rw [List.count_set h, hf]
 have : 0 < l.count false := List.count_pos_iff.2 (hf ▸ List.getElem_mem h)
 simp; omega

theorem least {p : Nat → Prop} (h : ∃ i, p i) : ∃ i, p i ∧ ∀ j, j < i → ¬ p j := by
 obtain ⟨i, hi⟩ := h
 induction i using Nat.strongRecOn with
 | _ i ih =>
  by_cases hj : ∃ j, j < i ∧ p j
  ·obtain ⟨j, h1, h2⟩ := hj
   exact ih j h1 h2
  ·exact ⟨i, hi, fun j h1 h2 => hj ⟨j, h1, h2⟩⟩

/-- What stands between two operations of the region. -/
structure FInv (ops : Array Oper) (w0 : World) (a : Act) (n : Nat) (Φ : Nat → Pred) (D : Nat → Tmp) (listed : Array Bool) (A : Act) (W : World) : Prop where
 size : listed.size = ops.size
 late : ∀ i, n ≤ i → listed.getD i false = false
 ext : Ext w0 W
 tmps : A.tmps.size = a.tmps.size
 defers : A.defers = a.defers
 has : ∀ i, i < n → listed.getD i false = true → Φ i (A.eval (.tmp (D i))) W
 out : ∀ t, (∀ i, i < n → listed.getD i false = true → D i ≠ t) → A.eval (.tmp t) = a.eval (.tmp t)

theorem getD_tf {listed : Array Bool} {i : Nat} (h : i < listed.size) : listed.getD i true = listed.getD i false := by simp [Array.getD, h]

section
variable {K : List (Tmp × Pred) → Prop} {done : List (Tmp × Pred)} {o : Oper} {rest : List Oper} {d : Tmp}

end

/-- A world that other operations of the region may have left. -/
structure SW (w0 : World) where
 w : World
 h : Ext w0 w
instance (w0 : World) : Inhabited (SW w0) := ⟨⟨w0, Mods.refl _ _⟩⟩
def InSW (w0 : World) : World → Prop := fun w => ∃ x : SW w0, w = x.w

theorem SW.cell {w0 : World} (x : SW w0) (b o : Nat) (h : b < w0.heap.size) : x.w.cell? ⟨b, o, none⟩ = w0.cell? ⟨b, o, none⟩ := x.h.cell (p := ⟨b, o, none⟩) h (fun hh => hh)
theorem SW.frozen {w0 : World} (x : SW w0) (b o : Nat) (h : b < w0.heap.size) : x.w.frozen? ⟨b, o, none⟩ = w0.frozen? ⟨b, o, none⟩ := x.h.frozen (p := ⟨b, o, none⟩) h (fun hh => hh)
@[go_sem] theorem SW.cellD {w0 : World} (x : SW w0.drew) (b o : Nat) (h : b < w0.heap.size) : x.w.cell? ⟨b, o, none⟩ = w0.cell? ⟨b, o, none⟩ := x.cell b o h
@[go_sem] theorem SW.frozenD {w0 : World} (x : SW w0.drew) (b o : Nat) (h : b < w0.heap.size) : x.w.frozen? ⟨b, o, none⟩ = w0.frozen? ⟨b, o, none⟩ := x.frozen b o h
theorem SW.call {w0 : World} {x : SW w0} {f : FuncId} {args : Array Value} {v : Value} (h : Calls P f args x.w fun e w' => e = .returned v ∧ Ext x.w w') :
  Calls P f args x.w fun e w'' => e = .returned v ∧ ∃ y : SW w0, w'' = y.w := h.mono fun e w' ⟨he, hE⟩ => ⟨he, ⟨w', x.h.trans hE⟩, rfl⟩
/-- Operations that are no call of a Go function. -/
def plainOp (o : Oper) : Bool :=
 match o.op with
 | .move _ | .assign _ | .load .. | .binOp .. | .unOp .. | .convert .. | .field .. | .fieldAddr .. | .index .. | .indexAddr .. | .slice .. | .build .. | .extract .. | .makeInterface .. | .lookup .. | .pick .. => true
 | .call { callee := .builtin .len, .. } | .call { callee := .builtin .cap, .. } | .call { callee := .builtin .min, .. } | .call { callee := .builtin .max, .. } => true
 | _ => false

def farOf (ops : Array Oper) (rels : List (Tmp × Pred)) (o : Oper) : Bool := (match o.op with | .select .. => false | _ => true) && rels.all fun p => !(o.looksAt ops).contains p.1 && o.dst != some p.1

def FlowX (P : Program) (ops : Array Oper) (w0 : World) (E : Act → List (Tmp × Pred) → Prop) : List (Tmp × Pred) → List Oper → Act → Prop
 | rels, [], a => E a rels
 | rels, o :: rest, a =>
  (farOf ops rels o = true ∧ plainOp o = true ∧ if Region.wanted o (yielded ops a.tmps) then o.quiet P a (InSW w0) (FlowX P ops w0 E rels rest) else FlowX P ops w0 E rels rest (a.put o.dst undef)) ∨
  (farOf ops rels o = true ∧ ∃ c, Region.wanted o (yielded ops a.tmps) = true ∧ (∀ x : SW w0, o.wp P a x.w (fun A' W' => A' = a.put o.dst c ∧ Ext x.w W') NoQ) ∧ FlowX P ops w0 E rels rest (a.put o.dst c)) ∨
  (∃ (d : Tmp) (φ : Pred), o.dst = some d ∧ rels.all (fun p => d != p.1) = true ∧ Stable φ ∧
   (∀ A W, Ext w0 W → (∀ t ∈ o.looksAt ops, (∀ p ∈ rels, p.1 ≠ t) → A.eval (.tmp t) = a.eval (.tmp t)) → (∀ p ∈ rels, p.1 ∈ o.looksAt ops → p.2 (A.eval (.tmp p.1)) W) →
    FStep P ops o A W (fun v W' => Ext W W' ∧ φ v W')) ∧ FlowX P ops w0 E ((d, φ) :: rels) rest a)

theorem run_callF {f : FuncId} {fn : Func} {xs : Array Operand} {ats : Array TypeId} {o : Oper} {A : Act} (hop : o.op = .call { callee := .value (.func f), args := xs, argTypes := ats }) (hfn : P.funcs[f]? = some fn) (hn : (fn.name == "runtime.NumGoroutine") = false) (hb : fn.body.isNone = false) (w : World) :
  (execOp A.eval o).run P w = .ok (.enter f (xs.map A.eval)) w := by
 obtain ⟨dst, op, ty, pos, after, guard⟩ := o
 simp only at hop
 subst hop
 rw [execOp_call_go]
 show Sem.run P (callFunc f _) w = _
 unfold callFunc
 have hn' : ¬ fn.name = "runtime.NumGoroutine" := by simpa using hn
 have hb' : ¬ fn.body = none := by intro e; rw [e] at hb; cases hb
 simp [hfn, hn', hb']

/-- A call with one outcome. -/
theorem FlowX.call {E : Act → List (Tmp × Pred) → Prop} {rels : List (Tmp × Pred)} {rest : List Oper} {o : Oper} {a : Act} {c : Value} {f : FuncId} {fn : Func} {xs : Array Operand} {ats : Array TypeId} {args : Array Value}
  (hop : o.op = .call { callee := .value (.func f), args := xs, argTypes := ats }) (hfn : P.funcs[f]? = some fn) (hn : (fn.name == "runtime.NumGoroutine") = false) (hb : fn.body.isNone = false)
  (hf : farOf ops rels o = true) (hw : Region.wanted o (yielded ops a.tmps) = true) (hc : ∀ x : SW w0, Calls P f args x.w fun e W' => e = .returned c ∧ Ext x.w W') (hargs : xs.map a.eval = args)
  (hr : FlowX P ops w0 E rels rest (a.put o.dst c)) : FlowX P ops w0 E rels (o :: rest) a :=
 .inr (.inl ⟨hf, c, hw, fun x => by
  unfold Oper.wp
  rw [run_callF hop hfn hn hb, hargs]
  refine Calls.mono (hc x) fun e W' he => ?_
  obtain ⟨rfl, hE⟩ := he
  exact ⟨rfl, hE⟩, hr⟩)

theorem FlowX.val {E : Act → List (Tmp × Pred) → Prop} {rels : List (Tmp × Pred)} {rest : List Oper} {o : Oper} {a : Act} (c : Value) (hf : farOf ops rels o = true) (hw : Region.wanted o (yielded ops a.tmps) = true)
  (hrun : ∀ x : SW w0, (execOp a.eval o).run P x.w = .ok (.value c) x.w) (hr : FlowX P ops w0 E rels rest (a.put o.dst c)) : FlowX P ops w0 E rels (o :: rest) a :=
 .inr (.inl ⟨hf, c, hw, fun x => by
  unfold Oper.wp
  rw [hrun]
  exact ⟨rfl, Mods.refl _ _⟩, hr⟩)

theorem FlowX.fin {E : Act → List (Tmp × Pred) → Prop} {rels : List (Tmp × Pred)} {a : Act} (h : E a rels) : FlowX P ops w0 E rels [] a := h

structure FRel (a0 : Act) (done rels : List (Tmp × Pred)) (a : Act) : Prop where
 tmps : a.tmps.size = a0.tmps.size
 defers : a.defers = a0.defers
 same : ∀ (A : Act) (W : World) (ts : List Tmp), FHas done ts A W → FOut done ts a0 A → ∀ t ∈ ts, (∀ p ∈ rels, p.1 ≠ t) → A.eval (.tmp t) = a.eval (.tmp t)
 rel : ∀ (A : Act) (W : World) (ts : List Tmp), FHas done ts A W → FOut done ts a0 A → ∀ p ∈ rels, p.1 ∈ ts → p.2 (A.eval (.tmp p.1)) W
 sub : ∀ p ∈ rels, p.1 ∈ done.map (·.1)

theorem fhas_filter {done : List (Tmp × Pred)} {ts : List Tmp} {A : Act} {W : World} {d : Tmp} {φ : Pred} (h : FHas ((d, φ) :: done) ts A W) : FHas done (ts.filter (· != d)) A W ∧ (d ∈ ts → φ (A.eval (.tmp d)) W) :=
 ⟨fun p hp ht => h p (List.mem_cons_of_mem _ hp) (List.mem_filter.1 ht).1, fun hd => h (d, φ) (List.mem_cons_self ..) hd⟩
theorem fout_filter {done : List (Tmp × Pred)} {ts : List Tmp} {a0 A : Act} {d : Tmp} {φ : Pred} (h : FOut ((d, φ) :: done) ts a0 A) : FOut done (ts.filter (· != d)) a0 A := ⟨h.1, fun t ht hn => by
 have := List.mem_filter.1 ht
 refine h.2 t this.1 ?_
 simp only [List.map_cons, List.mem_cons, not_or]
 exact ⟨by simpa using this.2, hn⟩⟩

theorem FRel.exact {a0 a : Act} {done rels : List (Tmp × Pred)} (h : FRel a0 done rels a) {d : Tmp} (c : Value) (hd : d < a0.tmps.size) (hf : ∀ p ∈ rels, p.1 ≠ d) :
  FRel a0 ((d, fun v _ => v = c) :: done) rels (a.put (some d) c) := by
 refine ⟨by simp [Act.put, h.tmps], by simp [Act.put, h.defers], ?_, ?_, fun p hp => List.mem_cons_of_mem _ (h.sub p hp)⟩
 ·intro A W ts h1 h2 t ht hn
  obtain ⟨h3, h4⟩ := fhas_filter h1
  by_cases e : d = t
  ·subst e
   rw [eval_put_same (by rw [h.tmps]; exact hd)]; exact h4 ht
  ·rw [eval_put_other e]
   exact h.same A W _ h3 (fout_filter h2) t (List.mem_filter.2 ⟨ht, by simpa using Ne.symm e⟩) hn
 ·intro A W ts h1 h2 p hp ht
  exact h.rel A W _ (fhas_filter h1).1 (fout_filter h2) p hp (List.mem_filter.2 ⟨ht, by simpa using hf p hp⟩)

end
end Go.Proofs.YtoonnnifelnaiaaGreatDoor.L

namespace Go.Proofs.YtoonnnifelnaiaaGreatDoor.A
open Go.RowKit L
set_option linter.unusedVariables false
set_option maxRecDepth 20000
set_option linter.unusedSimpArgs false

inductive AV where
 | val (v : Value)
 | ro (full : Bool) (len : Nat) (xs : List AV)
 | agg (xs : List AV)
 | tup (xs : List AV)
 | rp (xs : List AV) (o : Nat)
 | fn (f : Fn) (cap : List AV)
 | opt (c : Bool) (x : AV)

inductive RelV (R : Nat → Prop) (W : World) : AV → Value → Prop
 | val (v : Value) : RelV R W (.val v) v
 | emp (full : Bool) (a : Option Addr) (cap : Nat) : (full = true → cap = 0) → cap ≤ maxLen → RelV R W (.ro full 0 []) (.slice a 0 cap)
 | ro (full : Bool) (len : Nat) (xs : List AV) (b off cap : Nat) (us : Nat → Value) : R b → (∀ j, j < xs.length → W.cell? ⟨b, off + j, none⟩ = some (us j)) →
   (∀ j (h : j < xs.length), RelV R W xs[j] (us j)) → len ≤ cap → cap ≤ maxLen → (full = true → cap = len) → RelV R W (.ro full len xs) (.slice (some ⟨b, off, none⟩) len cap)
 | agg (xs : List AV) (cs : Array Value) : cs.size = xs.length → (∀ j (h : j < xs.length), RelV R W xs[j] (cs.getD j undef)) → RelV R W (.agg xs) (.agg cs)
 | tup (xs : List AV) (cs : Array Value) : cs.size = xs.length → (∀ j (h : j < xs.length), RelV R W xs[j] (cs.getD j undef)) → RelV R W (.tup xs) (.tuple cs)
 | rp (xs : List AV) (o b off : Nat) (us : Nat → Value) : R b → (∀ j, j < xs.length → W.cell? ⟨b, off + j, none⟩ = some (us j)) →
   (∀ j (h : j < xs.length), RelV R W xs[j] (us j)) → RelV R W (.rp xs o) (.pointer (some ⟨b, off + o, none⟩))
 | fn (f : Fn) (xs : List AV) (cs : Array Value) : cs.size = xs.length → (∀ j (h : j < xs.length), RelV R W xs[j] (cs.getD j undef)) → RelV R W (.fn f xs) (.func f #[] cs)
 | opt (c : Bool) (x : AV) (v : Value) : (c = true → RelV R W x v) → (c = false → v = undef) → RelV R W (.opt c x) v

theorem RelV.mono {R R' : Nat → Prop} {W W' : World} (hR : ∀ b, R b → R' b) (hW : ∀ b, R b → W'.heap[b]? = W.heap[b]?) {x : AV} {v : Value} (h : RelV R W x v) : RelV R' W' x v := by
 induction h with
 | val v => exact .val v
 | emp full a cap h1 h2 => exact .emp full a cap h1 h2
 | ro full len xs b off cap us hb hc _ h1 h2 h3 ih => exact .ro full len xs b off cap us (hR b hb) (fun j hj => by rw [World.cell?_of_block (w := W) (hW b hb)]; exact hc j hj) ih h1 h2 h3
 | agg xs cs hs _ ih => exact .agg xs cs hs ih
 | tup xs cs hs _ ih => exact .tup xs cs hs ih
 | rp xs o b off us hb hc _ ih => exact .rp xs o b off us (hR b hb) (fun j hj => by rw [World.cell?_of_block (w := W) (hW b hb)]; exact hc j hj) ih
 | fn f xs cs hs _ ih => exact .fn f xs cs hs ih
 | opt c x v _ h2 ih => exact .opt c x v ih h2

/-- Values that read as these. -/
def RelL (R : Nat → Prop) (W : World) (xs : List AV) (us : List Value) : Prop := us.length = xs.length ∧ ∀ j (h : j < xs.length), RelV R W xs[j] (us.getD j undef)

theorem RelL.mono {R R' : Nat → Prop} {W W' : World} (hR : ∀ b, R b → R' b) (hW : ∀ b, R b → W'.heap[b]? = W.heap[b]?) {xs : List AV} {us : List Value} (h : RelL R W xs us) : RelL R' W' xs us :=
 ⟨h.1, fun j hj => (h.2 j hj).mono hR hW⟩

theorem RelL.nil {R : Nat → Prop} {W : World} : RelL R W [] [] := ⟨rfl, fun j hj => by cases hj⟩
theorem RelL.cons {R : Nat → Prop} {W : World} {x : AV} {xs : List AV} {u : Value} {us : List Value} (h : RelV R W x u) (hs : RelL R W xs us) : RelL R W (x :: xs) (u :: us) :=
 ⟨by simp [hs.1], fun j hj => by
  cases j with
  | zero => simpa using h
  | succ j => simpa using hs.2 j (by simpa using hj)⟩
theorem RelL.uncons {R : Nat → Prop} {W : World} {x : AV} {xs : List AV} {us : List Value} (h : RelL R W (x :: xs) us) : ∃ u r, us = u :: r ∧ RelV R W x u ∧ RelL R W xs r := by
 cases us with
 | nil => have := h.1; simp at this
 | cons u r => exact ⟨u, r, rfl, h.2 0 (by simp), by have := h.1; simpa using this, fun j hj => h.2 (j + 1) (by simp; omega)⟩
theorem RelL.app {R : Nat → Prop} {W : World} {xs ys : List AV} {us vs : List Value} (h : RelL R W xs us) (k : RelL R W ys vs) : RelL R W (xs ++ ys) (us ++ vs) := by
  induction xs generalizing us with
  | nil => have : us = [] := List.eq_nil_of_length_eq_zero (by simpa using h.1)
           subst this; exact k
  | cons x xs ih =>
    obtain ⟨u, r, rfl, h1, h2⟩ := h.uncons
    exact RelL.cons h1 (ih h2)
theorem RelL.get {R : Nat → Prop} {W : World} {xs : List AV} {us : List Value} (h : RelL R W xs us) {j : Nat} {x : AV} (hx : xs[j]? = some x) : ∃ u, us[j]? = some u ∧ RelV R W x u := by
 obtain ⟨hj, rfl⟩ := List.getElem?_eq_some_iff.1 hx
 have hj' : j < us.length := by rw [h.1]; exact hj
 exact ⟨us[j], by simp [hj'], by simpa [hj'] using h.2 j hj⟩
theorem RelL.take {R : Nat → Prop} {W : World} {xs : List AV} {us : List Value} (h : RelL R W xs us) (n : Nat) : RelL R W (xs.take n) (us.take n) :=
 ⟨by simp [h.1], fun j hj => by
  rw [List.length_take] at hj
  have := h.2 j (by omega)
  have e : (us.take n).getD j undef = us.getD j undef := by simp [List.getD, List.getElem?_take, show j < n by omega]
  rw [e, List.getElem_take]; exact this⟩
theorem RelL.drop {R : Nat → Prop} {W : World} {xs : List AV} {us : List Value} (h : RelL R W xs us) (n : Nat) : RelL R W (xs.drop n) (us.drop n) :=
 ⟨by simp [h.1], fun j hj => by
  simp at hj
  have := h.2 (n + j) (by omega)
  have hj' : n + j < us.length := by rw [h.1]; omega
  simpa [hj'] using this⟩
theorem RelL.set {R : Nat → Prop} {W : World} {xs : List AV} {us : List Value} (h : RelL R W xs us) (i : Nat) {x : AV} {u : Value} (hx : RelV R W x u) : RelL R W (xs.set i x) (us.set i u) :=
 ⟨by simp [h.1], fun j hj => by
  simp at hj
  have hj' : j < us.length := by rw [h.1]; exact hj
  by_cases e : i = j
  ·subst e; simpa [hj'] using hx
  ·simpa [e, hj'] using h.2 j hj⟩

theorem relL_of_agg {R : Nat → Prop} {W : World} {xs : List AV} {cs : Array Value} (hs : cs.size = xs.length) (h : ∀ j (h : j < xs.length), RelV R W xs[j] (cs.getD j undef)) : RelL R W xs cs.toList :=
 ⟨by simpa using hs, fun j hj => by
  have hj' : j < cs.size := by omega
  simpa [Array.getD, hj'] using h j hj⟩
theorem RelL.toAgg {R : Nat → Prop} {W : World} {xs : List AV} {us : List Value} (h : RelL R W xs us) : RelV R W (.agg xs) (.agg us.toArray) :=
 .agg xs _ (by simpa using h.1) fun j hj => by
  have hj' : j < us.length := by rw [h.1]; exact hj
  simpa [Array.getD, hj'] using h.2 j hj
theorem RelL.toTup {R : Nat → Prop} {W : World} {xs : List AV} {us : List Value} (h : RelL R W xs us) : RelV R W (.tup xs) (.tuple us.toArray) :=
 .tup xs _ (by simpa using h.1) fun j hj => by
  have hj' : j < us.length := by rw [h.1]; exact hj
  simpa [Array.getD, hj'] using h.2 j hj
theorem RelL.toFn {R : Nat → Prop} {W : World} {f : Fn} {xs : List AV} {us : List Value} (h : RelL R W xs us) : RelV R W (.fn f xs) (.func f #[] us.toArray) :=
 .fn f xs _ (by simpa using h.1) fun j hj => by
  have hj' : j < us.length := by rw [h.1]; exact hj
  simpa [Array.getD, hj'] using h.2 j hj
theorem RelV.agg_inv {R : Nat → Prop} {W : World} {xs : List AV} {v : Value} (h : RelV R W (.agg xs) v) : ∃ us : List Value, v = .agg us.toArray ∧ RelL R W xs us := by
 cases h with
 | agg _ cs hs h => exact ⟨cs.toList, by simp, relL_of_agg hs h⟩
theorem RelV.tup_inv {R : Nat → Prop} {W : World} {xs : List AV} {v : Value} (h : RelV R W (.tup xs) v) : ∃ us : List Value, v = .tuple us.toArray ∧ RelL R W xs us := by
 cases h with
 | tup _ cs hs h => exact ⟨cs.toList, by simp, relL_of_agg hs h⟩
theorem RelV.opt_inv {R : Nat → Prop} {W : World} {c : Bool} {x : AV} {v : Value} (h : RelV R W (.opt c x) v) : (c = true → RelV R W x v) ∧ (c = false → v = undef) := by
 cases h with
 | opt _ _ _ h1 h2 => exact ⟨h1, h2⟩
theorem RelV.val_inv {R : Nat → Prop} {W : World} {v u : Value} (h : RelV R W (.val v) u) : u = v := by cases h; rfl

/-- What one cell can hold. -/
def AV.one : AV → Bool
 | .val v => v.oneCell'
 | .agg _ | .tup _ | .opt _ _ => false
 | _ => true
theorem RelV.one {R : Nat → Prop} {W : World} {x : AV} {v : Value} (h : RelV R W x v) (h1 : x.one = true) : v.oneCell' = true := by
 cases h <;> first | exact h1 | rfl | cases h1

def AV.cells : AV → List AV
 | .agg xs => xs
 | x => [x]
theorem RelV.cells {R : Nat → Prop} {W : World} {x : AV} {v : Value} (h : RelV R W x v) (h0 : ∀ u, x = .val u → u.oneCell' = true) (h9 : ∀ c y, x ≠ .opt c y) : RelL R W x.cells v.cells.toList := by
 cases h with
 | val v =>
  have := h0 v rfl
  have hc : v.cells = #[v] := by cases v <;> first | rfl | cases this
  rw [hc]; exact RelL.cons (.val v) RelL.nil
 | agg xs cs hs h => exact relL_of_agg hs h
 | emp full a cap h1 h2 => exact RelL.cons (.emp full a cap h1 h2) RelL.nil
 | ro full len xs b off cap us hb hc hr h1 h2 h3 => exact RelL.cons (.ro full len xs b off cap us hb hc hr h1 h2 h3) RelL.nil
 | tup xs cs hs h => exact RelL.cons (.tup xs cs hs h) RelL.nil
 | rp xs o b off us hb hc hr => exact RelL.cons (.rp xs o b off us hb hc hr) RelL.nil
 | fn f xs cs hs h => exact RelL.cons (.fn f xs cs hs h) RelL.nil
 | opt c y _ _ _ => exact absurd rfl (h9 c y)

abbrev Env := List (Nat × AV)
def look : Env → Nat → Option AV
 | [], _ => none
 | (k, v) :: r, t => bif Nat.beq k t then some v else look r t
def ofConst : Value → AV
 | .agg cs => .agg (cs.toList.map .val)
 | v => .val v
theorem ofConst_rel (R : Nat → Prop) (W : World) (v : Value) : RelV R W (ofConst v) v := by
 cases v with
 | agg cs =>
  refine .agg _ cs (by simp) fun j hj => ?_
  have hj' : j < cs.size := by simpa using hj
  simp only [List.getElem_map, Array.getElem_toList, Array.getD, hj', dif_pos]
  exact .val _
 | _ => exact .val _
def ev (E : Env) : Operand → Option AV
 | .tmp t => look E t
 | .const v => some (ofConst v)
 | .global g => some (.val (.pointer (some ⟨g, 0, none⟩)))
 | .func f => some (.fn (.func f) [])
def evs (E : Env) : List Operand → Option (List AV)
 | [] => some []
 | x :: r => match ev E x, evs E r with | some v, some vs => some (v :: vs) | _, _ => none

structure RelA (N : Nat) (R : Nat → Prop) (W : World) (E : Env) (a : Act) : Prop where
 defers : a.defers = []
 size : a.tmps.size = N
 slots : ∀ t v, look E t = some v → RelV R W v (a.eval (.tmp t))

theorem RelA.mono {N : Nat} {R R' : Nat → Prop} {W W' : World} {E : Env} {a : Act} (h : RelA N R W E a) (hR : ∀ b, R b → R' b) (hW : ∀ b, R b → W'.heap[b]? = W.heap[b]?) : RelA N R' W' E a :=
 ⟨h.defers, h.size, fun t v ht => (h.slots t v ht).mono hR hW⟩
theorem RelA.ev {N : Nat} {R : Nat → Prop} {W : World} {E : Env} {a : Act} (h : RelA N R W E a) {x : Operand} {v : AV} (hx : ev E x = some v) : RelV R W v (a.eval x) := by
 cases x with
 | tmp t => exact h.slots t v hx
 | const u => cases hx; exact ofConst_rel ..
 | global g => cases hx; exact .val _
 | func f => cases hx; exact .fn _ [] #[] rfl (fun j hj => by cases hj)
theorem RelA.evs {N : Nat} {R : Nat → Prop} {W : World} {E : Env} {a : Act} (h : RelA N R W E a) : ∀ {xs : List Operand} {vs : List AV}, A.evs E xs = some vs → RelL R W vs (xs.map a.eval)
 | [], vs, hx => by cases hx; exact RelL.nil
 | x :: r, vs, hx => by
  unfold A.evs at hx
  split at hx
  ·rename_i v vs' h1 h2
   cases hx
   exact RelL.cons (h.ev h1) (RelA.evs h h2)
  ·cases hx
theorem RelA.put {N : Nat} {R : Nat → Prop} {W : World} {E : Env} {a : Act} (h : RelA N R W E a) {d : Nat} (hd : d < N) {v : AV} {u : Value} (hv : RelV R W v u) : RelA N R W ((d, v) :: E) (a.put (some d) u) := by
 refine ⟨h.defers, by simp [Act.put, h.size], fun t x hx => ?_⟩
 unfold look at hx
 by_cases e : d = t
 ·subst e
  simp at hx
  subst hx
  rw [eval_put_same (by rw [h.size]; exact hd)]; exact hv
 ·have : Nat.beq d t = false := by cases hb : Nat.beq d t with | false => rfl | true => exact absurd (Nat.eq_of_beq_eq_true hb) e
  rw [this] at hx
  rw [eval_put_other e]; exact h.slots t x hx
theorem RelA.none {N : Nat} {R : Nat → Prop} {W : World} {E : Env} {a : Act} (h : RelA N R W E a) (u : Value) : RelA N R W E (a.put none u) := h

/-- What is the walk's own. -/
inductive HE where
 | blk (b : Nat) (T : TypeId) (room : Nat) (xs : List AV)
 | row (v : Value) (T : TypeId) (sz n : Nat) (xs : List AV)
 | prd (foot : Nat → Prop) (p : World → Prop)

def HE.foot : HE → Nat → Prop
 | .blk b .., k => k = b
 | .row v .., k => v.ownBlock = some k
 | .prd f _, k => f k

def HE.ok (R : Nat → Prop) (W : World) : HE → Prop
 | .blk b T room xs => ∃ us : List Value, ∃ cs : Array Value, W.heap[b]? = some (.cells cs T (0, 0)) ∧ cs.size = room ∧ cs.toList.take xs.length = us ∧ RelL R W xs us
 | .row v T sz n xs => ∃ us : List Value, W.ownsRow 0 T sz v n us ∧ RelL R W xs us
 | .prd f p => p W ∧ (∀ W' : World, W.heap.size ≤ W'.heap.size → (∀ b, f b → W'.heap[b]? = W.heap[b]?) → p W') ∧ ∀ b, f b → b < W.heap.size

theorem HE.ok_lt {R : Nat → Prop} {W : World} {e : HE} (h : e.ok R W) {b : Nat} (hb : e.foot b) : b < W.heap.size := by
 cases e with
 | blk b' T room xs =>
  obtain ⟨us, cs, h1, _⟩ := h
  cases hb
  exact (Array.getElem?_eq_some_iff.1 h1).1
 | row v T sz n xs =>
  obtain ⟨us, h1, _⟩ := h
  exact (h1.lt b hb).2
 | prd f p => exact h.2.2 b hb

theorem HE.ok_mono {R R' : Nat → Prop} {W W' : World} (hR : ∀ b, R b → R' b) (hW : ∀ b, R b → W'.heap[b]? = W.heap[b]?) {e : HE} (hs : W.heap.size ≤ W'.heap.size) (hf : ∀ b, e.foot b → W'.heap[b]? = W.heap[b]?) (h : e.ok R W) : e.ok R' W' := by
 cases e with
 | blk b T room xs =>
  obtain ⟨us, cs, h1, h2, h3, h4⟩ := h
  exact ⟨us, cs, by rw [hf b rfl]; exact h1, h2, h3, h4.mono hR hW⟩
 | row v T sz n xs =>
  obtain ⟨us, h1, h2⟩ := h
  refine ⟨us, ⟨h1.1, ?_⟩, h2.mono hR hW⟩
  rcases h1.2 with h | ⟨g, cap, cur, rfl, hb, hg, rest⟩
  ·exact .inl h
  ·exact .inr ⟨g, cap, cur, rfl, hb, by rw [hf g rfl]; exact hg, rest⟩
 | prd f p =>
  obtain ⟨h1, h2, h3⟩ := h
  refine ⟨h2 W' hs hf, fun W2 hs2 h4 => h2 W2 (by omega) fun b hb => (h4 b hb).trans (hf b hb), fun b hb => Nat.lt_of_lt_of_le (h3 b hb) hs⟩

def Disj (e f : HE) : Prop := ∀ b, e.foot b → ¬ f.foot b

structure Cx where
 w0 : World
 S : Nat → Prop
 R0 : Nat → Prop
 N : Nat

structure RelS (Γ : Cx) (R : Nat → Prop) (H : List HE) (W : World) : Prop where
 mods : Mods Γ.S Γ.w0 W
 rlt : ∀ b, R b → b < W.heap.size
 rsub : ∀ b, Γ.R0 b → R b
 rnew : ∀ b, R b → Γ.R0 b ∨ Γ.w0.heap.size ≤ b ∨ Γ.S b
 ok : ∀ e ∈ H, e.ok R W
 own : ∀ e ∈ H, ∀ b, e.foot b → (Γ.w0.heap.size ≤ b ∨ Γ.S b) ∧ ¬ R b
 disj : H.Pairwise Disj

/-- What one operation, or one call, leaves: nothing that was there differs; new blocks. -/
structure Post1 (R : Nat → Prop) (W : World) (v : AV) (Hn : List HE) (u : Value) (W' : World) (R' : Nat → Prop) : Prop where
 ext : Ext W W'
 sub : ∀ b, R b → R' b
 new : ∀ b, R' b → R b ∨ (W.heap.size ≤ b ∧ b < W'.heap.size)
 val : RelV R' W' v u
 ok : ∀ e ∈ Hn, e.ok R' W' ∧ ∀ b, e.foot b → W.heap.size ≤ b ∧ ¬ R' b
 disj : Hn.Pairwise Disj

theorem extSame {W W' : World} (h : Ext W W') {R : Nat → Prop} (hR : ∀ b, R b → b < W.heap.size) : ∀ b, R b → W'.heap[b]? = W.heap[b]? := fun b hb => h.block b (hR b hb) (fun hh => hh)

theorem RelS.step {Γ : Cx} {R R' : Nat → Prop} {H Hn : List HE} {W W' : World} {v : AV} {u : Value} (h : RelS Γ R H W) (p : Post1 R W v Hn u W' R') : RelS Γ R' (Hn ++ H) W' := by
 have hfl : ∀ e ∈ H, ∀ b, e.foot b → b < W.heap.size := fun e he b hb => HE.ok_lt (h.ok e he) hb
 refine ⟨h.mods.trans p.ext.any, fun b hb => ?_, fun b hb => p.sub b (h.rsub b hb), fun b hb => ?_, ?_, ?_, ?_⟩
 ·rcases p.new b hb with hb | hb
  ·exact Nat.lt_of_lt_of_le (h.rlt b hb) p.ext.size
  ·exact hb.2
 ·rcases p.new b hb with hb | hb
  ·exact h.rnew b hb
  ·exact .inr (.inl (Nat.le_trans h.mods.size hb.1))
 ·intro e he
  rcases List.mem_append.1 he with he | he
  ·exact (p.ok e he).1
  ·exact HE.ok_mono p.sub (extSame p.ext h.rlt) p.ext.size (fun b hb => p.ext.block b (hfl e he b hb) fun hh => hh) (h.ok e he)
 ·intro e he b hb
  rcases List.mem_append.1 he with he | he
  ·have := (p.ok e he).2 b hb
   exact ⟨.inl (Nat.le_trans h.mods.size this.1), this.2⟩
  ·refine ⟨(h.own e he b hb).1, fun hr => ?_⟩
   rcases p.new b hr with hr | hr
   ·exact (h.own e he b hb).2 hr
   ·have := hfl e he b hb; omega
 ·rw [List.pairwise_append]
  refine ⟨p.disj, h.disj, fun e he f hf b hb hb' => ?_⟩
  have h1 := ((p.ok e he).2 b hb).1
  have h2 := hfl f hf b hb'
  omega

/-- Fewer facts. -/
def Sub (H' H : List HE) : Prop := H'.Sublist H
theorem RelS.sub {Γ : Cx} {R : Nat → Prop} {H H' : List HE} {W : World} (h : RelS Γ R H W) (hs : H'.Sublist H) : RelS Γ R H' W :=
 ⟨h.mods, h.rlt, h.rsub, h.rnew, fun e he => h.ok e (hs.subset he), fun e he => h.own e (hs.subset he), h.disj.sublist hs⟩
theorem Disj.symm {e f : HE} (h : Disj e f) : Disj f e := fun b hb hb' => h b hb' hb
theorem RelS.perm {Γ : Cx} {R : Nat → Prop} {H H' : List HE} {W : World} (h : RelS Γ R H W) (hs : H'.Perm H) : RelS Γ R H' W :=
 ⟨h.mods, h.rlt, h.rsub, h.rnew, fun e he => h.ok e (hs.subset he), fun e he => h.own e (hs.subset he), (hs.symm.pairwise_iff Disj.symm).1 h.disj⟩

end Go.Proofs.YtoonnnifelnaiaaGreatDoor.A

namespace Go.Proofs.YtoonnnifelnaiaaGreatDoor.A
open Go.RowKit L
set_option linter.unusedVariables false
set_option maxRecDepth 20000
set_option linter.unusedSimpArgs false

abbrev G (Γ : Cx) (E : Env) (H : List HE) (X : Act → World → Prop) : Prop := ∀ R a W, RelS Γ R H W → RelA Γ.N R W E a → X a W
def AW (Γ : Cx) (P : Program) (Q : Exit → Act → World → Prop) (c : Code) (E : Env) (H : List HE) : Prop := G Γ E H (c.wp P Q)
def AQ (Γ : Cx) (Q : Exit → Act → World → Prop) (x : Exit) (E : Env) (H : List HE) : Prop := G Γ E H (Q x)
def AO (Γ : Cx) (P : Program) (ops : Array Oper) (Q : Exit → Act → World → Prop) (l : List Oper) (E : Env) (H : List HE) : Prop := G Γ E H (wpList P ops Q l)

theorem AW.g {Γ : Cx} {P : Program} {Q : Exit → Act → World → Prop} {c : Code} {E : Env} {H : List HE} (h : G Γ E H (c.wp P Q)) : AW Γ P Q c E H := h
theorem AQ.g {Γ : Cx} {Q : Exit → Act → World → Prop} {x : Exit} {E : Env} {H : List HE} (h : G Γ E H (Q x)) : AQ Γ Q x E H := h
theorem AO.g {Γ : Cx} {P : Program} {ops : Array Oper} {Q : Exit → Act → World → Prop} {l : List Oper} {E : Env} {H : List HE} (h : G Γ E H (wpList P ops Q l)) : AO Γ P ops Q l E H := h
theorem AW.u {Γ : Cx} {P : Program} {Q : Exit → Act → World → Prop} {c : Code} {E : Env} {H : List HE} (h : AW Γ P Q c E H) : G Γ E H (c.wp P Q) := h
theorem AQ.u {Γ : Cx} {Q : Exit → Act → World → Prop} {x : Exit} {E : Env} {H : List HE} (h : AQ Γ Q x E H) : G Γ E H (Q x) := h
theorem AO.u {Γ : Cx} {P : Program} {ops : Array Oper} {Q : Exit → Act → World → Prop} {l : List Oper} {E : Env} {H : List HE} (h : AO Γ P ops Q l E H) : G Γ E H (wpList P ops Q l) := h

section
variable {Γ : Cx} {P : Program} {Q : Exit → Act → World → Prop} {E : Env} {H : List HE}

/-- What stands behind a piece of code, where it ends well. -/
def Then (P : Program) (c : Code) (Q : Exit → Act → World → Prop) : Exit → Act → World → Prop := Exit.then (fun a w => c.wp P Q a w) Q

theorem AW.seq {x y : Code} (h : AW Γ P (Then P y Q) x E H) : AW Γ P Q (.seq x y) E H := fun R a W hs ha => wp_seq (h R a W hs ha)
theorem AW.skip (h : AQ Γ Q .normal E H) : AW Γ P Q .skip E H := fun R a W hs ha => wp_skip (h R a W hs ha)
theorem AW.exit {i : Nat} (h : AQ Γ Q (.exit i) E H) : AW Γ P Q (.exit i) E H := fun R a W hs ha => wp_exit (h R a W hs ha)
theorem AW.ret (h : AQ Γ Q .ret E H) : AW Γ P Q .ret E H := fun R a W hs ha => wp_ret (h R a W hs ha)
theorem AW.block {i : Nat} {c : Code} (h : AW Γ P (Exit.inBlock i Q) c E H) : AW Γ P Q (.block i c) E H := fun R a W hs ha => wp_block (h R a W hs ha)
theorem AW.condT {c : Operand} {x y : Code} (hc : ev E c = some (.val (.bool true))) (h : AW Γ P Q x E H) : AW Γ P Q (.cond c x y) E H := fun R a W hs ha => wp_cond_true (ha.ev hc).val_inv (h R a W hs ha)
theorem AW.condF {c : Operand} {x y : Code} (hc : ev E c = some (.val (.bool false))) (h : AW Γ P Q y E H) : AW Γ P Q (.cond c x y) E H := fun R a W hs ha => wp_cond_false (ha.ev hc).val_inv (h R a W hs ha)
theorem AW.cond {c : Operand} {x y : Code} (b : Bool) (hc : ev E c = some (.val (.bool b))) (h1 : b = true → AW Γ P Q x E H) (h2 : b = false → AW Γ P Q y E H) : AW Γ P Q (.cond c x y) E H := fun R a W hs ha =>
 wp_cond_split (ha.ev hc).val_inv (fun hb => h1 hb R a W hs ha) (fun hb => h2 hb R a W hs ha)

theorem AQ.thenN {c : Code} (h : AW Γ P Q c E H) : AQ Γ (Then P c Q) .normal E H := h
theorem AQ.thenX {c : Code} {i : Nat} (h : AQ Γ Q (.exit i) E H) : AQ Γ (Then P c Q) (.exit i) E H := h
theorem AQ.thenR {c : Code} (h : AQ Γ Q .ret E H) : AQ Γ (Then P c Q) .ret E H := h
theorem AQ.blockN {i : Nat} (h : AQ Γ Q .normal E H) : AQ Γ (Exit.inBlock i Q) .normal E H := h
theorem AQ.blockR {i : Nat} (h : AQ Γ Q .ret E H) : AQ Γ (Exit.inBlock i Q) .ret E H := h
theorem AQ.blockX {i j : Nat} (hij : Nat.beq i j = true) (h : AQ Γ Q .normal E H) : AQ Γ (Exit.inBlock i Q) (.exit j) E H := fun R a W hs ha => by
 have := Nat.eq_of_beq_eq_true hij
 subst this
 show (if i = i then Q .normal a W else Q (.exit i) a W)
 rw [if_pos rfl]; exact h R a W hs ha
theorem AQ.blockY {i j : Nat} (hij : Nat.beq i j = false) (h : AQ Γ Q (.exit j) E H) : AQ Γ (Exit.inBlock i Q) (.exit j) E H := fun R a W hs ha => by
 have : ¬ j = i := fun e => by subst e; simp at hij
 show (if j = i then Q .normal a W else Q (.exit j) a W)
 rw [if_neg this]; exact h R a W hs ha

/-- A loop: a relation of the state, with a number that every round lowers. -/
def LoopQ (I : Nat → Env → List HE → Prop) (n : Nat) (Γ : Cx) (Q : Exit → Act → World → Prop) : Exit → Act → World → Prop :=
 Exit.then (fun a W => ∃ m E H R, m < n ∧ I m E H ∧ RelS Γ R H W ∧ RelA Γ.N R W E a) Q
theorem AW.loop {c : Code} (I : Nat → Env → List HE → Prop) (n : Nat) {E0 : Env} {H0 : List HE} (hI : I n E0 H0) (hE : ∀ p ∈ E0, look E p.1 = some p.2) (hH : ∃ H1, H1.Sublist H ∧ H0.Perm H1)
  (round : ∀ n E H, I n E H → AW Γ P (LoopQ I n Γ Q) c E H) : AW Γ P Q (.loop c) E H := fun R a W hs ha => by
 have hmem : ∀ {E : Env} {t : Nat} {v : AV}, look E t = some v → (t, v) ∈ E := by
  intro E
  induction E with
  | nil => intro t v h; cases h
  | cons p r ih =>
   intro t v h
   unfold look at h
   cases hb : Nat.beq p.1 t with
   | true => rw [hb] at h; simp at h; subst h; have := Nat.eq_of_beq_eq_true hb; subst this; exact List.mem_cons_self ..
   | false => rw [hb] at h; exact List.mem_cons_of_mem _ (ih h)
 obtain ⟨H1, h1, h2⟩ := hH
 refine wp_loop_ghost (fun n a W => ∃ E H R, I n E H ∧ RelS Γ R H W ∧ RelA Γ.N R W E a) n ⟨E0, H0, R, hI, (hs.sub h1).perm h2, ⟨ha.defers, ha.size, fun t v ht => ha.slots t v (hE _ (hmem ht))⟩⟩ ?_
 rintro n a W ⟨E, H, R, hI, hs, ha⟩
 refine wp_mono (round n E H hI R a W hs ha) ?_
 intro e a w h
 cases e with
 | normal => obtain ⟨m, E', H', R', h1, h2, h3, h4⟩ := h; exact ⟨m, h1, E', H', R', h2, h3, h4⟩
 | _ => exact h
theorem AQ.loopN {I : Nat → Env → List HE → Prop} {n : Nat} (m : Nat) (E0 : Env) (H0 : List HE) (hm : m < n) (hI : I m E0 H0) (hE : ∀ p ∈ E0, look E p.1 = some p.2) (hH : ∃ H1, H1.Sublist H ∧ H0.Perm H1) : AQ Γ (LoopQ I n Γ Q) .normal E H := fun R a W hs ha => by
 have hmem : ∀ {E : Env} {t : Nat} {v : AV}, look E t = some v → (t, v) ∈ E := by
  intro E
  induction E with
  | nil => intro t v h; cases h
  | cons p r ih =>
   intro t v h
   unfold look at h
   cases hb : Nat.beq p.1 t with
   | true => rw [hb] at h; simp at h; subst h; have := Nat.eq_of_beq_eq_true hb; subst this; exact List.mem_cons_self ..
   | false => rw [hb] at h; exact List.mem_cons_of_mem _ (ih h)
 obtain ⟨H1, h1, h2⟩ := hH
 exact ⟨m, E0, H0, R, hm, hI, (hs.sub h1).perm h2, ⟨ha.defers, ha.size, fun t v ht => ha.slots t v (hE _ (hmem ht))⟩⟩
theorem AQ.loopX {I : Nat → Env → List HE → Prop} {n i : Nat} (h : AQ Γ Q (.exit i) E H) : AQ Γ (LoopQ I n Γ Q) (.exit i) E H := h
theorem AQ.loopR {I : Nat → Env → List HE → Prop} {n : Nat} (h : AQ Γ Q .ret E H) : AQ Γ (LoopQ I n Γ Q) .ret E H := h

/-! ### Operations -/

def Is (v : AV) : AV → List HE → Prop := fun v' Hn => v' = v ∧ Hn = []

/-- One operation, in whatever world: what it yields, and what it makes. -/
def OpW (P : Program) (N : Nat) (o : Oper) (E : Env) (H : List HE) (Φ : AV → List HE → Prop) : Prop :=
 ∀ R a W, (∀ b, R b → b < W.heap.size) → (∀ e ∈ H, e.ok R W) → (∀ e ∈ H, ∀ b, e.foot b → ¬ R b) → RelA N R W E a →
  o.wp P a W (fun A' W' => ∃ u v Hn R', A' = a.put o.dst u ∧ Φ v Hn ∧ Post1 R W v Hn u W' R') NoQ

def wantedIs (ops : Array Oper) (E : Env) (o : Oper) : Option Bool :=
 match o.guard with
 | none => some true
 | some (g, want) => match (ops[g]?).bind (·.dst) with
  | some t => match look E t with
   | some (.val (.bool c)) => some (c == want)
   | _ => none
  | none => none

theorem wanted_is {ops : Array Oper} {N : Nat} {R : Nat → Prop} {W : World} {a : Act} {o : Oper} {c : Bool} (ha : RelA N R W E a) (h : wantedIs ops E o = some c) : Region.wanted o (yielded ops a.tmps) = c := by
 unfold wantedIs at h
 unfold Region.wanted
 cases hg : o.guard with
 | none => rw [hg] at h; simpa using h
 | some gw =>
  obtain ⟨g, want⟩ := gw
  rw [hg] at h
  simp only at h ⊢
  cases ht : (ops[g]?).bind (·.dst) with
  | none => rw [ht] at h; cases h
  | some t =>
   rw [ht] at h
   simp only at h
   split at h
   ·rename_i b hl
    have hv := (ha.slots t _ hl).val_inv
    have hy : yielded ops a.tmps g = some b := by
     unfold yielded
     rw [ht]
     have : a.tmps[t]? = some (.bool b) := by
      simp only [Act.eval, Array.getD] at hv
      split at hv
      ·rename_i h; simp [h]; exact hv
      ·cases hv
     simp [this]
    rw [hy]
    cases h
    cases b <;> cases want <;> rfl
   ·cases h

variable {ops : Array Oper} {rest : List Oper} {o : Oper} {N : Nat}

theorem AO.nil (h : AQ Γ Q .normal E H) : AO Γ P ops Q [] E H := h

/-- One operation, run or left out. -/
def OpF (P : Program) (N : Nat) (ops : Array Oper) (o : Oper) (E : Env) (H : List HE) (Φ : AV → List HE → Prop) : Prop :=
 ∀ R a W, (∀ b, R b → b < W.heap.size) → (∀ e ∈ H, e.ok R W) → (∀ e ∈ H, ∀ b, e.foot b → ¬ R b) → RelA N R W E a →
  FStep P ops o a W (fun u W' => ∃ v Hn R', Φ v Hn ∧ Post1 R W v Hn u W' R')

theorem OpF.run {Φ : AV → List HE → Prop} (hw : wantedIs ops E o = some true) (h : OpW P N o E H Φ) : OpF P N ops o E H Φ := fun R a W h1 h2 h3 h4 => by
 unfold FStep
 rw [if_pos (wanted_is h4 hw)]
 refine Oper.wp_mono ?_ (h R a W h1 h2 h3 h4)
 rintro A' W' ⟨u, v, Hn, R', rfl, h5, h6⟩
 exact ⟨u, rfl, v, Hn, R', h5, h6⟩
theorem Post1.undef {R : Nat → Prop} {W : World} {v : AV} (hv : RelV R W v undef) : Post1 R W v [] undef W R :=
 ⟨Mods.refl _ _, fun _ h => h, fun _ h => .inl h, hv, fun _ he => (by cases he), .nil⟩
theorem OpF.no (hw : wantedIs ops E o = some false) : OpF P N ops o E H (Is (.val undef)) := fun R a W h1 h2 h3 h4 => by
 unfold FStep
 rw [if_neg (by rw [wanted_is h4 hw]; simp)]
 exact ⟨_, [], R, ⟨rfl, rfl⟩, Post1.undef (.val _)⟩

/-- When a guarded operation runs. -/
def guardIs (ops : Array Oper) (E : Env) (o : Oper) : Option Bool :=
 match o.guard with
 | none => none
 | some (g, want) => match (ops[g]?).bind (·.dst) with
  | some t => match look E t with
   | some (.val (.bool p)) => some (bif want then p else !p)
   | some (.opt q (.val (.bool p))) => some (q && (bif want then p else !p))
   | _ => none
  | none => none
theorem guard_is {R : Nat → Prop} {W : World} {a : Act} {c : Bool} (ha : RelA N R W E a) (h : guardIs ops E o = some c) : Region.wanted o (yielded ops a.tmps) = c := by
 unfold guardIs at h
 unfold Region.wanted
 cases hg : o.guard with
 | none => rw [hg] at h; cases h
 | some gw =>
  obtain ⟨g, want⟩ := gw
  rw [hg] at h
  simp only at h ⊢
  cases ht : (ops[g]?).bind (·.dst) with
  | none => rw [ht] at h; cases h
  | some t =>
   rw [ht] at h
   simp only at h
   have hy : ∀ b, a.eval (.tmp t) = .bool b → yielded ops a.tmps g = some b := fun b hv => by
    unfold yielded
    rw [ht]
    have : a.tmps[t]? = some (.bool b) := by
     simp only [Act.eval, Array.getD] at hv
     split at hv
     ·rename_i h; simp [h]; exact hv
     ·cases hv
    simp [this]
   have hn : a.eval (.tmp t) = undef → yielded ops a.tmps g = none := fun hv => by
    unfold yielded
    rw [ht]
    simp only [Act.eval, Array.getD] at hv
    split at hv
    ·rename_i h
     have : a.tmps[t]? = some undef := by simp [h]; exact hv
     simp [this, undef]
    ·rename_i h
     have : a.tmps[t]? = none := by simp; omega
     simp [this]
   split at h
   ·rename_i b hl
    rw [hy b (ha.slots t _ hl).val_inv]
    cases h
    cases b <;> cases want <;> rfl
   ·rename_i q b hl
    obtain ⟨h1, h2⟩ := (ha.slots t _ hl).opt_inv
    cases q
    ·rw [hn (h2 rfl)]
     cases h
     rfl
    ·rw [hy b (h1 rfl).val_inv]
     cases h
     cases b <;> cases want <;> rfl
   ·cases h
theorem OpF.opt {c : Bool} {v : AV} (hw : guardIs ops E o = some c) (h : c = true → OpW P N o E H (Is v)) : OpF P N ops o E H (Is (.opt c v)) := fun R a W h1 h2 h3 h4 => by
 unfold FStep
 rw [guard_is h4 hw]
 cases c
 ·exact ⟨_, [], R, ⟨rfl, rfl⟩, Post1.undef (.opt _ _ _ (fun h => by cases h) (fun _ => rfl))⟩
 ·refine Oper.wp_mono ?_ (h rfl R a W h1 h2 h3 h4)
  rintro A' W' ⟨u, v', Hn, R', rfl, ⟨rfl, rfl⟩, h6⟩
  exact ⟨u, rfl, _, [], R', ⟨rfl, rfl⟩, ⟨h6.ext, h6.sub, h6.new, .opt _ _ _ (fun _ => h6.val) (fun h => by cases h), h6.ok, h6.disj⟩⟩

theorem OpW.force {Φ : AV → List HE → Prop} (t : Nat) {c : Bool} {x : AV} (ht : look E t = some (.opt c x)) (hc : c = true) (h : OpW P N o ((t, x) :: E) H Φ) : OpW P N o E H Φ := fun R a W h1 h2 h3 h4 =>
 h R a W h1 h2 h3 ⟨h4.defers, h4.size, fun s v hs => by
  unfold look at hs
  cases hb : Nat.beq t s with
  | true => rw [hb] at hs; cases hs; have := Nat.eq_of_beq_eq_true hb; subst this; exact (h4.slots t _ ht).opt_inv.1 hc
  | false => rw [hb] at hs; exact h4.slots s v hs⟩

theorem AO.opF {d : Nat} {Φ : AV → List HE → Prop} (h : OpF P Γ.N ops o E H Φ) (hd : o.dst = some d) (hN : d < Γ.N) (k : ∀ v Hn, Φ v Hn → AO Γ P ops Q rest ((d, v) :: E) (Hn ++ H)) :
  AO Γ P ops Q (o :: rest) E H := fun R a W hs ha => by
 have := h R a W hs.rlt hs.ok (fun e he b hb => (hs.own e he b hb).2) ha
 unfold FStep at this
 unfold wpList
 split
 ·rename_i hw
  rw [if_pos hw] at this
  refine .inl (wp_of_noQ (Oper.wp_mono ?_ this))
  rintro A' W' ⟨u, rfl, v, Hn, R', hΦ, hp⟩
  rw [hd]
  exact k v Hn hΦ R' _ W' (hs.step hp) ((ha.mono hp.sub (extSame hp.ext hs.rlt)).put hN hp.val)
 ·rename_i hw
  rw [if_neg hw] at this
  obtain ⟨v, Hn, R', hΦ, hp⟩ := this
  rw [hd]
  exact k v Hn hΦ R' _ W (hs.step hp) ((ha.mono hp.sub (extSame hp.ext hs.rlt)).put hN hp.val)
theorem AO.opN {d : Nat} {Φ : AV → List HE → Prop} (h : OpW P Γ.N o E H Φ) (hw : wantedIs ops E o = some true) (hd : o.dst = some d) (hN : Nat.ble (d + 1) Γ.N = true) (k : ∀ v Hn, Φ v Hn → AO Γ P ops Q rest ((d, v) :: E) (Hn ++ H)) :
  AO Γ P ops Q (o :: rest) E H := AO.opF (.run hw h) hd (Nat.le_of_ble_eq_true hN) k
theorem AO.op {d : Nat} {v : AV} (h : OpW P Γ.N o E H (Is v)) (hw : wantedIs ops E o = some true) (hd : o.dst = some d) (hN : Nat.ble (d + 1) Γ.N = true) (k : AO Γ P ops Q rest ((d, v) :: E) H) :
  AO Γ P ops Q (o :: rest) E H := AO.opN h hw hd hN (by rintro _ _ ⟨rfl, rfl⟩; exact k)
/-- A guarded operation, whose guard is not known. -/
theorem AO.opG {d : Nat} {c : Bool} {v : AV} (hw : guardIs ops E o = some c) (hd : o.dst = some d) (hN : Nat.ble (d + 1) Γ.N = true) (h : c = true → OpW P Γ.N o E H (Is v)) (k : AO Γ P ops Q rest ((d, .opt c v) :: E) H) :
  AO Γ P ops Q (o :: rest) E H := AO.opF (.opt hw h) hd (Nat.le_of_ble_eq_true hN) (by rintro _ _ ⟨rfl, rfl⟩; exact k)
theorem AO.no {d : Nat} (hw : wantedIs ops E o = some false) (hd : o.dst = some d) (hN : Nat.ble (d + 1) Γ.N = true) (k : AO Γ P ops Q rest ((d, .val undef) :: E) H) : AO Γ P ops Q (o :: rest) E H :=
 AO.opF (.no hw) hd (Nat.le_of_ble_eq_true hN) (by rintro _ _ ⟨rfl, rfl⟩; exact k)

theorem AW.region {id : Nat} {l : List Oper} (h : AO Γ P l.toArray Q l E H) : AW Γ P Q (.region id l.toArray false) E H := fun R a W hs ha => wp_region_lit (h R a W hs ha)

theorem Post1.same {R : Nat → Prop} {W : World} {v : AV} {u : Value} (hR : ∀ b, R b → b < W.heap.size) (h : RelV R W v u) : Post1 R W v [] u W R :=
 ⟨Mods.refl _ _, fun _ h => h, fun _ h => .inl h, h, fun _ he => (by cases he), .nil⟩

theorem OpW.of_run {v : AV} (h : ∀ R a W, (∀ b, R b → b < W.heap.size) → (∀ e ∈ H, e.ok R W) → RelA N R W E a → ∃ u, (execOp a.eval o).run P W = .ok (.value u) W ∧ RelV R W v u) : OpW P N o E H (Is v) := fun R a W h1 h2 h3 h4 => by
 obtain ⟨u, hr, hv⟩ := h R a W h1 h2 h4
 unfold Oper.wp
 rw [hr]
 exact ⟨u, v, [], R, rfl, ⟨rfl, rfl⟩, Post1.same h1 hv⟩

end
end Go.Proofs.YtoonnnifelnaiaaGreatDoor.A

namespace Go.Proofs.YtoonnnifelnaiaaGreatDoor.A
open Go.RowKit L
set_option linter.unusedVariables false
set_option maxRecDepth 20000
set_option linter.unusedSimpArgs false

class TyD (P : Program) (T : Nat) (d : outParam TypeDesc) : Prop where
 ax : P.underlying T = some d
class TyN (P : Program) (T : Nat) (k bs : outParam Nat) (z : outParam Value) : Prop where
 ax : ∃ i, P.info? T = some i ∧ i.size = k ∧ i.bytes = bs ∧ i.zero = some z
/-- A type of one cell, or of several. -/
class TyG (P : Program) (T : Nat) (g : outParam Bool) (k : outParam Nat) : Prop where
 ax : ∃ d i, P.underlying T = some d ∧ P.info? T = some i ∧ i.size = k ∧ (match d with | .struct _ | .array _ _ => true | _ => false) = g
class TyS (P : Program) (T : Nat) (U k bs : outParam Nat) (z : outParam Value) : Prop where
 ty : P.underlying T = some (.slice U)
 el : ∃ i, P.info? U = some i ∧ i.size = k ∧ i.bytes = bs ∧ i.zero = some z
class TyL (P : Program) (T : Nat) (n k : outParam Nat) : Prop where
 ax : ∃ U i, P.underlying T = some (.array n U) ∧ P.info? U = some i ∧ i.size = k
class TyF (P : Program) (T f : Nat) (off : outParam Nat) : Prop where
 ax : ∃ fs fld i, P.underlying T = some (.struct fs) ∧ fs[f]? = some fld ∧ fld.offset = off ∧ P.info? fld.type = some i ∧ i.size ≠ 0

section
variable {P : Program} {E : Env} {H : List HE} {N : Nat} {o : Oper}

theorem O.move {x : Operand} {v : AV} (ho : o.op = .move x) (hx : ev E x = some v) : OpW P N o E H (Is v) := .of_run fun R a W h1 h2 ha =>
 ⟨a.eval x, by simp only [execOp, ho]; rfl, ha.ev hx⟩
theorem O.assign {x : Operand} {v : AV} (ho : o.op = .assign x) (hx : ev E x = some v) : OpW P N o E H (Is v) := .of_run fun R a W h1 h2 ha =>
 ⟨a.eval x, by simp only [execOp, ho]; rfl, ha.ev hx⟩
theorem O.pickT {c x y : Operand} {v : AV} (ho : o.op = .pick c x y) (hc : ev E c = some (.val (.bool true))) (hx : ev E x = some v) : OpW P N o E H (Is v) := .of_run fun R a W h1 h2 ha =>
 ⟨a.eval x, by simp only [execOp, ho, (ha.ev hc).val_inv]; rfl, ha.ev hx⟩
theorem O.pickF {c x y : Operand} {v : AV} (ho : o.op = .pick c x y) (hc : ev E c = some (.val (.bool false))) (hy : ev E y = some v) : OpW P N o E H (Is v) := .of_run fun R a W h1 h2 ha =>
 ⟨a.eval y, by simp only [execOp, ho, (ha.ev hc).val_inv]; rfl, ha.ev hy⟩

/-- 'c && x', 'c || x': x was run only if it was asked. -/
theorem O.pickAnd {c x y : Operand} {p q z : Bool} (ho : o.op = .pick c x y) (hc : ev E c = some (.val (.bool p))) (hx : ev E x = some (.opt q (.val (.bool z)))) (hy : ev E y = some (.val (.bool false))) (hq : p = true → q = true) : OpW P N o E H (Is (.val (.bool (p && z)))) := .of_run fun R a W h1 h2 ha =>
 ⟨.bool (p && z), by
  cases p
  ·simp only [execOp, ho, (ha.ev hc).val_inv, (ha.ev hy).val_inv]; rfl
  ·simp only [execOp, ho, (ha.ev hc).val_inv, ((ha.ev hx).opt_inv.1 (hq rfl)).val_inv]; rfl, .val _⟩
theorem O.pickOr {c x y : Operand} {p q z : Bool} (ho : o.op = .pick c x y) (hc : ev E c = some (.val (.bool p))) (hx : ev E x = some (.val (.bool true))) (hy : ev E y = some (.opt q (.val (.bool z)))) (hq : p = false → q = true) : OpW P N o E H (Is (.val (.bool (p || z)))) := .of_run fun R a W h1 h2 ha =>
 ⟨.bool (p || z), by
  cases p
  ·simp only [execOp, ho, (ha.ev hc).val_inv, ((ha.ev hy).opt_inv.1 (hq rfl)).val_inv]; rfl
  ·simp only [execOp, ho, (ha.ev hc).val_inv, (ha.ev hx).val_inv]; rfl, .val _⟩

theorem O.bin {op : BinOp} {T T' : Nat} {x y : Operand} {u w : Value} {v : Value} (ho : o.op = .binOp op T x y T') (hx : ev E x = some (.val u)) (hy : ev E y = some (.val w))
  (hr : ∀ W, (do eqGuard op T x y u w; binOp op T u w : Sem Value).run P W = .ok v W) : OpW P N o E H (Is (.val v)) := .of_run fun R a W h1 h2 ha =>
 ⟨v, by
  simp only [execOp, ho, (ha.ev hx).val_inv, (ha.ev hy).val_inv]
  rw [Sem.run_bind, hr W]; rfl, .val _⟩
theorem O.binI {op : BinOp} {T T' : Nat} {x y : Operand} {k : IntKind} {p q : Int} {v : Value} (ho : o.op = .binOp op T x y T') (hx : ev E x = some (.val (.int k p))) (hy : ev E y = some (.val (.int k q)))
  (hr : ∀ W, (binOp op T (.int k p) (.int k q)).run P W = .ok v W) : OpW P N o E H (Is (.val v)) := O.bin ho hx hy fun W => by
 have : (eqGuard op T x y (.int k p) (.int k q)).run P W = .ok () W := by
  unfold eqGuard; split <;> rfl
 rw [Sem.run_bind, this]; exact hr W
theorem O.add {T T' : Nat} {x y : Operand} {k : IntKind} {p q c : Int} (ho : o.op = .binOp .add T x y T') (hx : ev E x = some (.val (.int k p))) (hy : ev E y = some (.val (.int k q))) (hc : k.wrap (p + q) = c) :
  OpW P N o E H (Is (.val (.int k c))) := O.binI ho hx hy fun W => by simp [binOp, Op.intArith, hc]
theorem O.sub {T T' : Nat} {x y : Operand} {k : IntKind} {p q c : Int} (ho : o.op = .binOp .sub T x y T') (hx : ev E x = some (.val (.int k p))) (hy : ev E y = some (.val (.int k q))) (hc : k.wrap (p - q) = c) :
  OpW P N o E H (Is (.val (.int k c))) := O.binI ho hx hy fun W => by simp [binOp, Op.intArith, hc]
theorem O.mul {T T' : Nat} {x y : Operand} {k : IntKind} {p q c : Int} (ho : o.op = .binOp .mul T x y T') (hx : ev E x = some (.val (.int k p))) (hy : ev E y = some (.val (.int k q))) (hc : k.wrap (p * q) = c) :
  OpW P N o E H (Is (.val (.int k c))) := O.binI ho hx hy fun W => by simp [binOp, Op.intArith, hc]
theorem O.rem {T T' : Nat} {x y : Operand} {k : IntKind} {p q c : Int} (ho : o.op = .binOp .rem T x y T') (hx : ev E x = some (.val (.int k p))) (hy : ev E y = some (.val (.int k q))) (h0 : q ≠ 0) (hc : p.tmod q = c) :
  OpW P N o E H (Is (.val (.int k c))) := O.binI ho hx hy fun W => by simp [binOp, Op.intDiv, hc, h0]
theorem O.lss {T T' : Nat} {x y : Operand} {k : IntKind} {p q : Int} {c : Bool} (ho : o.op = .binOp .lss T x y T') (hx : ev E x = some (.val (.int k p))) (hy : ev E y = some (.val (.int k q))) (hc : decide (p < q) = c) :
  OpW P N o E H (Is (.val (.bool c))) := O.binI ho hx hy fun W => by simp [binOp, Op.intCmp, ← hc]
theorem O.leq {T T' : Nat} {x y : Operand} {k : IntKind} {p q : Int} {c : Bool} (ho : o.op = .binOp .leq T x y T') (hx : ev E x = some (.val (.int k p))) (hy : ev E y = some (.val (.int k q))) (hc : decide (p ≤ q) = c) :
  OpW P N o E H (Is (.val (.bool c))) := O.binI ho hx hy fun W => by simp [binOp, Op.intCmp, ← hc]
theorem O.gtr {T T' : Nat} {x y : Operand} {k : IntKind} {p q : Int} {c : Bool} (ho : o.op = .binOp .gtr T x y T') (hx : ev E x = some (.val (.int k p))) (hy : ev E y = some (.val (.int k q))) (hc : decide (q < p) = c) :
  OpW P N o E H (Is (.val (.bool c))) := O.binI ho hx hy fun W => by simp [binOp, Op.intCmp, ← hc]
theorem O.geq {T T' : Nat} {x y : Operand} {k : IntKind} {p q : Int} {c : Bool} (ho : o.op = .binOp .geq T x y T') (hx : ev E x = some (.val (.int k p))) (hy : ev E y = some (.val (.int k q))) (hc : decide (q ≤ p) = c) :
  OpW P N o E H (Is (.val (.bool c))) := O.binI ho hx hy fun W => by simp [binOp, Op.intCmp, ← hc]
theorem O.eql {T T' : Nat} {x y : Operand} {k : IntKind} {p q : Int} {c : Bool} (ho : o.op = .binOp .eql T x y T') (hx : ev E x = some (.val (.int k p))) (hy : ev E y = some (.val (.int k q))) (hc : (p == q) = c) :
  OpW P N o E H (Is (.val (.bool c))) := O.binI ho hx hy fun W => by simp [binOp, Op.intCmp, ← hc]
theorem O.neq {T T' : Nat} {x y : Operand} {k : IntKind} {p q : Int} {c : Bool} (ho : o.op = .binOp .neq T x y T') (hx : ev E x = some (.val (.int k p))) (hy : ev E y = some (.val (.int k q))) (hc : (p != q) = c) :
  OpW P N o E H (Is (.val (.bool c))) := O.binI ho hx hy fun W => by simp [binOp, Op.intCmp, ← hc]
theorem O.shl {T T' : Nat} {x y : Operand} {k k' : IntKind} {p q c : Int} (ho : o.op = .binOp .shl T x y T') (hx : ev E x = some (.val (.int k p))) (hy : ev E y = some (.val (.int k' q))) (h0 : 0 ≤ q) (hc : k.wrap (p * 2 ^ (min q.toNat k.bits)) = c) :
  OpW P N o E H (Is (.val (.int k c))) := O.bin ho hx hy fun W => by
 have : ¬ q < 0 := by omega
 simp [eqGuard, binOp, Op.shift, this, hc]
theorem O.shr {T T' : Nat} {x y : Operand} {k k' : IntKind} {p q c : Int} (ho : o.op = .binOp .shr T x y T') (hx : ev E x = some (.val (.int k p))) (hy : ev E y = some (.val (.int k' q))) (h0 : 0 ≤ q) (hc : p.fdiv (2 ^ (min q.toNat k.bits)) = c) :
  OpW P N o E H (Is (.val (.int k c))) := O.bin ho hx hy fun W => by
 have : ¬ q < 0 := by omega
 simp [eqGuard, binOp, Op.shift, this, hc]
theorem O.bits {op : BinOp} {T T' : Nat} {x y : Operand} {k : IntKind} {p q c : Int} (ho : o.op = .binOp op T x y T') (hop : (match op with | .and | .or | .xor | .andNot => true | _ => false) = true) (hx : ev E x = some (.val (.int k p))) (hy : ev E y = some (.val (.int k q)))
  (hc : ∀ W, (Op.intBits op k p q).run P W = .ok (.int k c) W) : OpW P N o E H (Is (.val (.int k c))) := O.binI ho hx hy fun W => by
 cases op <;> first | (cases hop; done) | (simp [binOp]; exact hc W)
theorem O.eqlS {T T' : Nat} {x y : Operand} {p q : ByteArray} {c : Bool} (ho : o.op = .binOp .eql T x y T') (hx : ev E x = some (.val (.string p))) (hy : ev E y = some (.val (.string q))) (hc : (p.toList == q.toList) = c) :
  OpW P N o E H (Is (.val (.bool c))) := O.bin ho hx hy fun W => by simp [eqGuard, binOp, Op.stringOp, hc]
theorem O.neqS {T T' : Nat} {x y : Operand} {p q : ByteArray} {c : Bool} (ho : o.op = .binOp .neq T x y T') (hx : ev E x = some (.val (.string p))) (hy : ev E y = some (.val (.string q))) (hc : (p.toList != q.toList) = c) :
  OpW P N o E H (Is (.val (.bool c))) := O.bin ho hx hy fun W => by simp [eqGuard, binOp, Op.stringOp, ← hc, bne]

theorem O.not {T : Nat} {x : Operand} {p c : Bool} (ho : o.op = .unOp .not T x) (hx : ev E x = some (.val (.bool p))) (hc : (!p) = c) : OpW P N o E H (Is (.val (.bool c))) := .of_run fun R a W h1 h2 ha =>
 ⟨.bool c, by simp [execOp, ho, (ha.ev hx).val_inv, Op.unary, hc], .val _⟩
theorem O.conv {S T : Nat} {ds : TypeDesc} {x : Operand} {k k' : IntKind} {p c : Int} [TyD P S ds] [TyD P T (.int k')] (ho : o.op = .convert S T x) (hx : ev E x = some (.val (.int k p))) (hc : k'.wrap p = c) :
  OpW P N o E H (Is (.val (.int k' c))) := .of_run fun R a W h1 h2 ha =>
 ⟨.int k' c, by simp [execOp, ho, (ha.ev hx).val_inv, convert, run_underlying (TyD.ax (P := P) (T := S)), run_underlying (TyD.ax (P := P) (T := T)), Conv.intToInt, hc], .val _⟩

theorem O.extract {x : Operand} {i : Nat} {vs : List AV} {v : AV} (ho : o.op = .extract x i) (hx : ev E x = some (.tup vs)) (hv : vs[i]? = some v) : OpW P N o E H (Is v) := .of_run fun R a W h1 h2 ha => by
 obtain ⟨us, hu, hl⟩ := (ha.ev hx).tup_inv
 obtain ⟨u, h3, h4⟩ := hl.get hv
 exact ⟨u, by simp [execOp, ho, hu, Instr.extract, h3], h4⟩
theorem O.nilCheck {x : Operand} {b : Addr} (ho : o.op = .nilCheck x) (hx : ev E x = some (.val (.pointer (some b)))) : OpW P N o E H (Is (.val (.pointer (some b)))) := .of_run fun R a W h1 h2 ha =>
 ⟨.pointer (some b), by simp [execOp, ho, (ha.ev hx).val_inv], .val _⟩
theorem O.nilCheckR {x : Operand} {xs : List AV} {i : Nat} (ho : o.op = .nilCheck x) (hx : ev E x = some (.rp xs i)) : OpW P N o E H (Is (.rp xs i)) := .of_run fun R a W h1 h2 ha => by
 have := ha.ev hx
 generalize hu : a.eval x = u at *
 cases this with
 | rp _ _ b off us hb hc hr => exact ⟨_, by simp only [execOp, ho, hu]; rfl, .rp xs i b off us hb hc hr⟩

theorem O.lenR {x : Operand} {T : Nat} {full : Bool} {n : Nat} {xs : List AV} {d : TypeId} [TyD P T (.slice d)] (ho : o.op = .call { callee := .builtin .len, args := #[x], argTypes := #[T] }) (hx : ev E x = some (.ro full n xs)) :
  OpW P N o E H (Is (.val (.int .i64 n))) := .of_run fun R a W h1 h2 ha => by
 have := ha.ev hx
 generalize hu : a.eval x = u at *
 have ht := run_underlying (TyD.ax (P := P) (T := T))
 cases this with
 | emp _ ad cap h3 h4 => exact ⟨_, by simp [execOp, ho, hu, resolve, invoke, builtin, Builtin.len_, ht, goInt], .val _⟩
 | ro _ _ _ b off cap us hb hc hr h3 h4 h5 => exact ⟨_, by simp [execOp, ho, hu, resolve, invoke, builtin, Builtin.len_, ht, goInt], .val _⟩
theorem O.lenV {x : Operand} {T : Nat} {ad : Option Addr} {n c : Nat} {d : TypeId} [TyD P T (.slice d)] (ho : o.op = .call { callee := .builtin .len, args := #[x], argTypes := #[T] }) (hx : ev E x = some (.val (.slice ad n c))) :
  OpW P N o E H (Is (.val (.int .i64 n))) := .of_run fun R a W h1 h2 ha => by
 have ht := run_underlying (TyD.ax (P := P) (T := T))
 exact ⟨_, by simp [execOp, ho, (ha.ev hx).val_inv, resolve, invoke, builtin, Builtin.len_, ht, goInt], .val _⟩
theorem O.lenS {x : Operand} {T : Nat} {s : ByteArray} [TyD P T .string] (ho : o.op = .call { callee := .builtin .len, args := #[x], argTypes := #[T] }) (hx : ev E x = some (.val (.string s))) :
  OpW P N o E H (Is (.val (.int .i64 s.size))) := .of_run fun R a W h1 h2 ha => by
 have ht := run_underlying (TyD.ax (P := P) (T := T))
 exact ⟨_, by simp [execOp, ho, (ha.ev hx).val_inv, resolve, invoke, builtin, Builtin.len_, ht, goInt], .val _⟩
theorem O.lenRow {x : Operand} {T : Nat} {v : Value} {T' sz n : Nat} {xs : List AV} {d : TypeId} [TyD P T (.slice d)] (ho : o.op = .call { callee := .builtin .len, args := #[x], argTypes := #[T] }) (hx : ev E x = some (.val v)) (hm : .row v T' sz n xs ∈ H) :
  OpW P N o E H (Is (.val (.int .i64 n))) := .of_run fun R a W h1 h2 ha => by
 have ht := run_underlying (TyD.ax (P := P) (T := T))
 obtain ⟨us, hw, -⟩ := h2 _ hm
 rcases hw.2 with ⟨hv, h0⟩ | ⟨g, cap, cur, hv, -⟩
 ·exact ⟨_, by simp [execOp, ho, (ha.ev hx).val_inv, hv, h0, resolve, invoke, builtin, Builtin.len_, ht, goInt], .val _⟩
 ·exact ⟨_, by simp [execOp, ho, (ha.ev hx).val_inv, hv, resolve, invoke, builtin, Builtin.len_, ht, goInt], .val _⟩

theorem addr_add (b off n : Nat) : (⟨b, off, none⟩ : Addr).add n = ⟨b, off + n, none⟩ := by
 unfold Addr.add; split <;> simp_all

theorem O.fieldAddr {T f : Nat} {x : Operand} {b off k : Nat} [hf : TyF P T f k] (ho : o.op = .fieldAddr T x f) (hx : ev E x = some (.val (.pointer (some ⟨b, off, none⟩)))) : OpW P N o E H (Is (.val (.pointer (some ⟨b, off + k, none⟩)))) := .of_run fun R a W h1 h2 ha => by
 obtain ⟨fs, fld, i, hu, hfl, hoff, hi, h0⟩ := hf.ax
 exact ⟨_, by simp [execOp, ho, (ha.ev hx).val_inv, Instr.fieldAt, run_underlying hu, hfl, Instr.sureAddr, fieldPlace, sizeOf, typeInfo, hi, h0, hoff, addr_add], .val _⟩
theorem O.fieldAddrR {T f : Nat} {x : Operand} {xs : List AV} {j k : Nat} [hf : TyF P T f k] (ho : o.op = .fieldAddr T x f) (hx : ev E x = some (.rp xs j)) : OpW P N o E H (Is (.rp xs (j + k))) := .of_run fun R a W h1 h2 ha => by
 obtain ⟨fs, fld, i, hu, hfl, hoff, hi, h0⟩ := hf.ax
 have := ha.ev hx
 generalize hv : a.eval x = v at *
 cases this with
 | rp _ _ b off us hb hc hr =>
  refine ⟨_, ?_, .rp xs (j + k) b off us hb hc hr⟩
  simp [execOp, ho, hv, Instr.fieldAt, run_underlying hu, hfl, Instr.sureAddr, fieldPlace, sizeOf, typeInfo, hi, h0, hoff, addr_add, Nat.add_assoc]

theorem O.idxR {T : Nat} {x y : Operand} {full : Bool} {n : Nat} {xs : List AV} {k : IntKind} {z : Int} {U sz bs : Nat} {zz : Value} [hs : TyS P T U sz bs zz] (ho : o.op = .indexAddr T x y) (hx : ev E x = some (.ro full n xs)) (hy : ev E y = some (.val (.int k z))) (hz : 0 ≤ z ∧ z < n) :
  OpW P N o E H (Is (.rp xs (z.toNat * sz))) := .of_run fun R a W h1 h2 ha => by
 obtain ⟨i, hi, hi2, -⟩ := hs.el
 have := ha.ev hx
 generalize hv : a.eval x = v at *
 cases this with
 | emp _ ad cap h3 h4 => simp at hz; omega
 | ro _ _ _ b off cap us hb hc hr h3 h4 h5 =>
  refine ⟨_, ?_, .rp xs (z.toNat * sz) b off us hb hc hr⟩
  have h9 : ¬ ((n : Int) ≤ 1 ∧ False) := by simp
  simp [execOp, ho, hv, (ha.ev hy).val_inv, Instr.indexAt, asIntOf, run_underlying hs.ty, sizeOf, typeInfo, hi, hi2, hz, addr_add]
theorem O.idxV {T : Nat} {x y : Operand} {n c : Nat} {b off : Nat} {k : IntKind} {z : Int} {U sz bs : Nat} {zz : Value} [hs : TyS P T U sz bs zz] (ho : o.op = .indexAddr T x y) (hx : ev E x = some (.val (.slice (some ⟨b, off, none⟩) n c))) (hy : ev E y = some (.val (.int k z))) (hz : 0 ≤ z ∧ z < n) :
  OpW P N o E H (Is (.val (.pointer (some ⟨b, off + z.toNat * sz, none⟩)))) := .of_run fun R a W h1 h2 ha => by
 obtain ⟨i, hi, hi2, -⟩ := hs.el
 refine ⟨_, ?_, .val _⟩
 simp [execOp, ho, (ha.ev hx).val_inv, (ha.ev hy).val_inv, Instr.indexAt, asIntOf, run_underlying hs.ty, sizeOf, typeInfo, hi, hi2, hz, addr_add]
theorem run_loadVar1 {T k : Nat} (h : TyG P T false k) (W : World) (ad : Addr) (u : Value) (hu : W.cell? ad = some u) : (loadVar T ad).run P W = .ok u W := by
 obtain ⟨d, i, hd, hi, hk, hg⟩ := h.ax
 have : (isAgg T).run P W = .ok false W := by
  unfold isAgg
  rw [Sem.run_bind, run_underlying hd W]
  cases d <;> simp_all
 simp [loadVar, this, hu]
theorem run_loadVarK {T k : Nat} (h : TyG P T true k) (W : World) (b off : Nat) (us : List Value) (hl : us.length = k) (hu : ∀ j u, us[j]? = some u → W.cell? ⟨b, off + j, none⟩ = some u) : (loadVar T ⟨b, off, none⟩).run P W = .ok (.agg us.toArray) W := by
 obtain ⟨d, i, hd, hi, hk, hg⟩ := h.ax
 have : (isAgg T).run P W = .ok true W := by
  unfold isAgg
  rw [Sem.run_bind, run_underlying hd W]
  cases d <;> simp_all
 have hc := run_loadCells_list (P := P) W ⟨b, off, none⟩ us (fun j v hv => by rw [addr_add]; exact hu j v hv)
 rw [hl] at hc
 simp [loadVar, this, sizeOf, typeInfo, hi, hk, hc]

theorem O.loadR {T : Nat} {x : Operand} {xs : List AV} {j k : Nat} {v : AV} [hg : TyG P T false k] (ho : o.op = .load T x) (hx : ev E x = some (.rp xs j)) (hv : xs[j]? = some v) : OpW P N o E H (Is v) := .of_run fun R a W h1 h2 ha => by
 obtain ⟨hj, rfl⟩ := List.getElem?_eq_some_iff.1 hv
 have := ha.ev hx
 generalize hu : a.eval x = u at *
 cases this with
 | rp _ _ b off us hb hc hr =>
  refine ⟨us j, ?_, hr j hj⟩
  simp [execOp, ho, hu, Instr.loadAt, Instr.sureAddr, run_loadVar1 hg W _ _ (hc j hj)]
theorem O.loadRK {T : Nat} {x : Operand} {xs : List AV} {j k : Nat} {ys : List AV} [hg : TyG P T true k] (ho : o.op = .load T x) (hx : ev E x = some (.rp xs j)) (hv : (xs.drop j).take k = ys) (hk : ys.length = k) : OpW P N o E H (Is (.agg ys)) := .of_run fun R a W h1 h2 ha => by
 have := ha.ev hx
 generalize hu : a.eval x = u at *
 cases this with
 | rp _ _ b off us hb hc hr =>
  have hlen : j + k ≤ xs.length ∨ k = 0 := by
   rw [← hv, List.length_take, List.length_drop] at hk; omega
  have hrl : RelL R W ys ((List.range k).map fun i => us (j + i)) := ⟨by simp [hk], fun i hi => by
   have hi2 : i < k := by omega
   have e1 : ys[i] = xs[j + i]'(by omega) := by
    subst hv; simp [List.getElem_take, List.getElem_drop]
   have e2 : ((List.range k).map fun i => us (j + i)).getD i undef = us (j + i) := by simp [List.getD, hi2]
   rw [e1, e2]; exact hr (j + i) (by omega)⟩
  refine ⟨_, ?_, hrl.toAgg⟩
  have hl := run_loadVarK hg W b (off + j) ((List.range k).map fun i => us (j + i)) (by simp) (fun i u hi => by
   obtain ⟨h1, rfl⟩ := List.getElem?_eq_some_iff.1 hi
   simp at h1
   simp only [List.getElem_map, List.getElem_range]
   rw [Nat.add_assoc]
   exact hc (j + i) (by omega))
  simp only [execOp, ho, hu, Instr.loadAt, Instr.sureAddr, Sem.run_bind, Sem.run_pure, Result.andThen_ok, hl]

theorem blk_cell {R : Nat → Prop} {W : World} {b T room : Nat} {xs : List AV} (h : HE.ok R W (.blk b T room xs)) {j : Nat} {v : AV} (hv : xs[j]? = some v) : ∃ u, W.cell? ⟨b, j, none⟩ = some u ∧ RelV R W v u := by
 obtain ⟨us, cs, hb, hs, ht, hr⟩ := h
 obtain ⟨u, h1, h2⟩ := hr.get hv
 refine ⟨u, ?_, h2⟩
 rw [cell_of_row W b j cs T (0, 0) hb]
 rw [← ht, List.getElem?_take] at h1
 split at h1
 ·simpa using h1
 ·cases h1

theorem O.load {T : Nat} {x : Operand} {b j k : Nat} {v : AV} {T' room : Nat} {xs : List AV} [hg : TyG P T false k] (ho : o.op = .load T x) (hx : ev E x = some (.val (.pointer (some ⟨b, j, none⟩)))) (hm : HE.blk b T' room xs ∈ H) (hv : xs[j]? = some v) : OpW P N o E H (Is v) := .of_run fun R a W h1 h2 ha => by
 obtain ⟨u, h3, h4⟩ := blk_cell (h2 _ hm) hv
 exact ⟨u, by simp [execOp, ho, (ha.ev hx).val_inv, Instr.loadAt, Instr.sureAddr, run_loadVar1 hg W _ _ h3], h4⟩
theorem O.loadK {T : Nat} {x : Operand} {b j k : Nat} {ys : List AV} {T' room : Nat} {xs : List AV} [hg : TyG P T true k] (ho : o.op = .load T x) (hx : ev E x = some (.val (.pointer (some ⟨b, j, none⟩)))) (hm : HE.blk b T' room xs ∈ H) (hv : (xs.drop j).take k = ys) (hk : ys.length = k) : OpW P N o E H (Is (.agg ys)) := .of_run fun R a W h1 h2 ha => by
 obtain ⟨us, cs, hb, hs, ht, hr⟩ := h2 _ hm
 have hrl := (hr.drop j).take k
 rw [hv] at hrl
 refine ⟨_, ?_, hrl.toAgg⟩
 have hl := run_loadVarK hg W b j ((us.drop j).take k) (by rw [hrl.1, hk]) (fun i u hi => by
  rw [cell_of_row W b (j + i) cs T' (0, 0) hb]
  rw [List.getElem?_take] at hi
  split at hi
  ·rw [List.getElem?_drop, ← ht, List.getElem?_take] at hi
   split at hi
   ·simpa using hi
   ·cases hi
  ·cases hi)
 simp only [execOp, ho, (ha.ev hx).val_inv, Instr.loadAt, Instr.sureAddr, Sem.run_bind, Sem.run_pure, Result.andThen_ok, hl]

theorem O.fn {f : Fn} {cap : List Operand} {vs : List AV} (ho : o.op = .makeFunc f #[] cap.toArray) (hx : evs E cap = some vs) : OpW P N o E H (Is (.fn f vs)) := .of_run fun R a W h1 h2 ha =>
 ⟨_, by simp [execOp, ho, Instr.makeFunc], (ha.evs hx).toFn⟩

end
end Go.Proofs.YtoonnnifelnaiaaGreatDoor.A

namespace Go.Proofs.YtoonnnifelnaiaaGreatDoor.A
open Go.RowKit L
set_option linter.unusedVariables false
set_option maxRecDepth 20000
set_option linter.unusedSimpArgs false

theorem relL_vals (R : Nat → Prop) (W : World) (us : List Value) : RelL R W (us.map .val) us := ⟨by simp, fun j hj => by
 have hj' : j < us.length := by simpa using hj
 have : us.getD j undef = us[j] := by simp [List.getD, hj']
 rw [List.getElem_map, this]; exact .val _⟩

theorem RelL.all_one {R : Nat → Prop} {W : World} {xs : List AV} {us : List Value} (h : RelL R W xs us) (h1 : xs.all AV.one = true) : ∀ u ∈ us, u.oneCell' = true := by
 intro u hu
 obtain ⟨j, hj, rfl⟩ := List.getElem_of_mem hu
 have hj' : j < xs.length := by rw [← h.1]; exact hj
 have := h.2 j hj'
 rw [show us.getD j undef = us[j] by simp [List.getD, hj]] at this
 exact this.one (List.all_eq_true.1 h1 _ (List.getElem_mem hj'))

/-- A new block. -/
theorem post1_new {R : Nat → Prop} {W : World} (hR : ∀ b, R b → b < W.heap.size) (T : TypeId) (cs : Array Value) (room : Nat) (xs : List AV) (hr : cs.size = room) (hx : RelL R W xs (cs.toList.take xs.length)) {v : AV} {u : Value}
  (hv : ∀ R W, RelV R W v u) : Post1 R W v [.blk W.heap.size T room xs] u (W.alloc (.cells cs T)) R := by
 have hs : ∀ b, R b → (W.alloc (.cells cs T)).heap[b]? = W.heap[b]? := fun b hb => Below.heap_alloc W _ b (hR b hb)
 refine ⟨Mods.alloc (Mods.refl _ _) _, fun _ h => h, fun _ h => .inl h, hv _ _, ?_, by simp⟩
 intro e he
 obtain rfl : e = _ := by simpa using he
 refine ⟨⟨_, cs, heap_alloc_new W _, hr, rfl, hx.mono (fun _ h => h) hs⟩, fun b hb => ?_⟩
 cases hb
 exact ⟨Nat.le_refl _, fun h => by have := hR _ h; omega⟩

section
variable {Γ : Cx} {P : Program} {Q : Exit → Act → World → Prop} {E : Env} {H : List HE} {N : Nat} {o : Oper} {ops : Array Oper} {rest : List Oper}

def NewBlk (v : Nat → AV) (T room : Nat) (xs : List AV) : AV → List HE → Prop := fun v' Hn => ∃ b, v' = v b ∧ Hn = [.blk b T room xs]

theorem O.alloc {T k bs : Nat} {z : Value} {xs : List AV} [hn : TyN P T k bs z] (ho : o.op = .alloc T) (hx : z.cells.toList.map AV.val = xs) (hk : z.cells.size = k) :
  OpW P N o E H (NewBlk (fun b => .val (.pointer (some ⟨b, 0, none⟩))) T k xs) := fun R a W h1 h2 h3 ha => by
 obtain ⟨i, hi, hik, hib, hiz⟩ := hn.ax
 have hr : (execOp a.eval o).run P W = .ok (.value (.pointer (some ⟨W.heap.size, 0, none⟩))) (W.alloc (.cells z.cells T)) := by
  simp [execOp, ho, Instr.alloc, zeroValue, typeInfo, hi, hiz, newVar, newRow]
 unfold Oper.wp
 rw [hr]
 refine ⟨_, _, _, R, rfl, ⟨W.heap.size, rfl, rfl⟩, post1_new h1 T z.cells k xs hk ?_ (fun _ _ => .val _)⟩
 subst hx
 rw [List.length_map, List.take_length]
 exact relL_vals R W _

theorem O.box {T k : Nat} {x : Operand} {v : AV} {xs : List AV} (ho : o.op = .box T x) (hx : ev E x = some v) (hv : v.cells = xs) (hk : xs.length = k) (h1 : (match v with | .val u => u.oneCell' | .opt _ _ => false | _ => true) = true) :
  OpW P N o E H (NewBlk (fun b => .val (.pointer (some ⟨b, 0, none⟩))) T k xs) := fun R a W h0 h2 h3 ha => by
 have hc := (ha.ev hx).cells (fun u hu => by subst hu; exact h1) (fun c y hu => by subst hu; cases h1)
 rw [hv] at hc
 have hr : (execOp a.eval o).run P W = .ok (.value (.pointer (some ⟨W.heap.size, 0, none⟩))) (W.alloc (.cells (a.eval x).cells T)) := by
  simp [execOp, ho, Instr.box, newVar, newRow]
 unfold Oper.wp
 rw [hr]
 have hl := hc.1
 rw [Array.length_toList] at hl
 refine ⟨_, _, _, R, rfl, ⟨W.heap.size, rfl, rfl⟩, post1_new h0 T _ k xs (by omega) ?_ (fun _ _ => .val _)⟩
 rw [List.take_of_length_le (by rw [Array.length_toList]; omega)]
 exact hc

/-! Struct and array literals. -/

def splice (xs : List AV) (off : Nat) : List AV → List AV
 | [] => xs
 | c :: r => splice (xs.set off c) (off + 1) r
def fillA (place : Nat → Option (Nat × Nat)) (xs : List AV) : List (Nat × AV) → Option (List AV)
 | [] => some xs
 | (i, v) :: r => match place i with
  | none => none
  | some (off, size) => bif Nat.beq v.cells.length size && Nat.ble (off + v.cells.length) xs.length then fillA place (splice xs off v.cells) r else none

theorem splice_rel {R : Nat → Prop} {W : World} : ∀ (cs : List AV) (us : List Value) (xs : List AV) (ws : Array Value) (off k : Nat), RelL R W cs us → RelL R W xs ws.toList →
  RelL R W (splice xs (off + k) cs) ((us.zipIdx k).foldl (fun cs (c, j) => cs.setIfInBounds (off + j) c) ws).toList
 | [], us, xs, ws, off, k, h1, h2 => by
  have : us = [] := List.eq_nil_of_length_eq_zero (by simpa using h1.1)
  subst this
  exact h2
 | c :: r, us, xs, ws, off, k, h1, h2 => by
  obtain ⟨u, ur, rfl, h3, h4⟩ := h1.uncons
  exact splice_rel r ur (xs.set (off + k) c) (ws.setIfInBounds (off + k) u) off (k + 1) h4 (by
   rw [Array.toList_setIfInBounds]; exact h2.set _ h3)

theorem fill_rel {R : Nat → Prop} {W : World} {place place' : Nat → Option (Nat × Nat)} (hp : ∀ i q, place i = some q → place' i = some q) : ∀ (ps : List (Nat × AV)) (vs : List (Nat × Value)) (xs ys : List AV) (ws : Array Value),
  ps.map (·.1) = vs.map (·.1) → RelL R W (ps.map (·.2)) (vs.map (·.2)) → (∀ p ∈ ps, (∀ u, p.2 = .val u → u.oneCell' = true) ∧ ∀ c y, p.2 ≠ .opt c y) → RelL R W xs ws.toList → fillA place xs ps = some ys →
  ∃ zs : Array Value, Instr.fill place' ws vs = some zs ∧ RelL R W ys zs.toList
 | [], vs, xs, ys, ws, h1, h2, h3, h4, h5 => by
  have : vs = [] := by cases vs <;> simp_all
  subst this
  cases h5
  exact ⟨ws, rfl, h4⟩
 | (i, v) :: r, vs, xs, ys, ws, h1, h2, h3, h4, h5 => by
  obtain ⟨u, ur, he, h6, h7⟩ := h2.uncons
  cases vs with
  | nil => simp at h1
  | cons p vr =>
   obtain ⟨i', u'⟩ := p
   simp only [List.map_cons, List.cons.injEq] at h1 he
   obtain ⟨rfl, h1⟩ := h1
   obtain ⟨rfl, rfl⟩ := he
   unfold fillA at h5
   split at h5
   ·cases h5
   ·rename_i off size hpl
    have hc := h6.cells (h3 _ (List.mem_cons_self ..)).1 (h3 _ (List.mem_cons_self ..)).2
    have hl : v.cells.length = u'.cells.size := by have := hc.1; rw [Array.length_toList] at this; exact this.symm
    cases hcond : (Nat.beq v.cells.length size && Nat.ble (off + v.cells.length) xs.length) with
    | false => rw [hcond] at h5; cases h5
    | true =>
     rw [hcond] at h5
     simp only [Bool.and_eq_true] at hcond
     have h8 := Nat.eq_of_beq_eq_true hcond.1
     have h9 := Nat.le_of_ble_eq_true hcond.2
     have hwl : ws.size = xs.length := by have := h4.1; rw [Array.length_toList] at this; exact this
     have hsp := splice_rel v.cells u'.cells.toList xs ws off 0 hc h4
     obtain ⟨zs, h10, h11⟩ := fill_rel hp r vr _ ys _ h1 h7 (fun p hp => h3 p (List.mem_cons_of_mem _ hp)) hsp h5
     refine ⟨zs, ?_, h11⟩
     unfold Instr.fill
     rw [hp _ _ hpl]
     simp only
     rw [if_neg (by simp; omega)]
     rw [← Array.foldl_toList, Array.toList_zipIdx]
     exact h10

class TyB (P : Program) (T : Nat) (ps : outParam (List (Nat × Nat))) (z : outParam Value) : Prop where
 ax : ∃ i, P.info? T = some i ∧ i.zero = some z ∧ ((∃ fs, P.underlying T = some (.struct fs) ∧ fs.toList.mapM (fun f => (P.info? f.type).map fun i => (f.offset, i.size)) = some ps) ∨
  (∃ n U ie, P.underlying T = some (.array n U) ∧ P.info? U = some ie ∧ ps = (List.range n).map fun i => (i * ie.size, ie.size)))

def vals1 : List (Nat × AV) → Bool
 | [] => true
 | (_, .val u) :: r => u.oneCell' && vals1 r
 | (_, .opt _ _) :: _ => false
 | _ :: r => vals1 r
theorem vals1_spec : ∀ {ps : List (Nat × AV)}, vals1 ps = true → ∀ p ∈ ps, (∀ u, p.2 = .val u → u.oneCell' = true) ∧ ∀ c y, p.2 ≠ .opt c y
 | [], _, p, hp => by cases hp
 | (i, v) :: r, h, p, hp => by
  rcases List.mem_cons.1 hp with rfl | hp
  ·refine ⟨fun u hu => ?_, fun c y hu => ?_⟩
   ·simp only at hu
    subst hu
    simp only [vals1, Bool.and_eq_true] at h
    exact h.1
   ·simp only at hu
    subst hu
    cases h
  ·refine vals1_spec (ps := r) ?_ p hp
   cases v <;> simp_all [vals1]

def evp (E : Env) : List (Nat × Operand) → Option (List (Nat × AV))
 | [] => some []
 | (i, x) :: r => match ev E x, evp E r with | some v, some vs => some ((i, v) :: vs) | _, _ => none
theorem RelA.evp {R : Nat → Prop} {W : World} {a : Act} (h : RelA N R W E a) : ∀ {xs : List (Nat × Operand)} {vs : List (Nat × AV)}, A.evp E xs = some vs →
  vs.map (·.1) = (xs.map fun (i, x) => (i, a.eval x)).map (·.1) ∧ RelL R W (vs.map (·.2)) ((xs.map fun (i, x) => (i, a.eval x)).map (·.2))
 | [], vs, hx => by cases hx; exact ⟨rfl, RelL.nil⟩
 | (i, x) :: r, vs, hx => by
  unfold A.evp at hx
  split at hx
  ·rename_i v vs' h1 h2
   cases hx
   obtain ⟨h3, h4⟩ := RelA.evp h h2
   exact ⟨by simp [h3], RelL.cons (h.ev h1) h4⟩
  ·cases hx

theorem O.build {T : Nat} {pl : List (Nat × Nat)} {z : Value} {parts : List (Nat × Operand)} {ps : List (Nat × AV)} {ys : List AV} [hb : TyB P T pl z] (ho : o.op = .build T parts.toArray) (hx : evp E parts = some ps) (h1 : vals1 ps = true)
  (hy : fillA (pl[·]?) (z.cells.toList.map .val) ps = some ys) : OpW P N o E H (Is (.agg ys)) := .of_run fun R a W h0 h2 ha => by
 obtain ⟨i, hi, hz, hu⟩ := hb.ax
 obtain ⟨h3, h4⟩ := ha.evp hx
 have key : ∀ place', (∀ i q, pl[i]? = some q → place' i = some q) → ∃ zs : Array Value, Instr.fill place' z.cells (parts.map fun (i, x) => (i, a.eval x)) = some zs ∧ RelL R W ys zs.toList := fun place' hp =>
  fill_rel (W := W) (R := R) (place := (pl[·]?)) (place' := place') hp ps _ _ ys z.cells h3 h4 (vals1_spec h1) (relL_vals R W _) hy
 have hfin : ∀ zs : Array Value, P.built T (parts.map fun (i, x) => (i, a.eval x)) = some zs → RelL R W ys zs.toList → ∃ u, (execOp a.eval o).run P W = .ok (.value u) W ∧ RelV R W (.agg ys) u := fun zs h5 h6 => by
  refine ⟨.agg zs, ?_, by simpa using h6.toAgg⟩
  simp only [execOp, ho]
  rw [Sem.run_bind, run_build W T _ zs (by simpa using h5)]
  rfl
 rcases hu with ⟨fs, hu, hm⟩ | ⟨n, U, ie, hu, hie, hpl⟩
 ·obtain ⟨zs, h5, h6⟩ := key (pl.toArray[·]?) (fun i q h => by simpa using h)
  exact hfin zs (by unfold Program.built; simp [hi, hu, hz, hm]; simpa using h5) h6
 ·obtain ⟨zs, h5, h6⟩ := key (fun i => some (i * ie.size, ie.size)) (fun i q h => by
   subst hpl
   obtain ⟨h7, rfl⟩ := List.getElem?_eq_some_iff.1 h
   simp)
  exact hfin zs (by unfold Program.built; simp [hi, hu, hz, hie]; exact h5) h6

def zerosA (n : Nat) (z : Value) : List AV := (List.replicate n (z.cells.toList.map AV.val)).flatten
theorem zeros_cells (z : Value) (k : Nat) (hz : z.cells.size = k) : ∀ n, ((Array.range (n * k)).map (z.cells[· % z.cells.size]!)).toList = (List.replicate n z.cells.toList).flatten := by
 intro n
 apply List.ext_getElem?
 intro i
 have key : ∀ (n i : Nat), (List.replicate n z.cells.toList).flatten[i]? = if i < n * k then some (z.cells[i % k]!) else none := by
  intro n
  induction n with
  | zero => intro i; simp
  | succ n ih =>
   intro i
   rw [List.replicate_succ, List.flatten_cons, List.getElem?_append]
   by_cases h : i < k
   ·have h1 : i < z.cells.size := by omega
    have h2 : i < (n + 1) * k := by rw [Nat.add_mul]; omega
    simp [h1, h2, Nat.mod_eq_of_lt h]
   ·have h1 : ¬ i < z.cells.toList.length := by simp; omega
    rw [if_neg h1, ih]
    have e : (i - k) % k = i % k := by rw [← Nat.mod_eq_sub_mod (by omega)]
    simp only [Array.length_toList, hz, e]
    have h3 : (i - k < n * k) ↔ (i < (n + 1) * k) := by rw [Nat.add_mul]; omega
    simp only [h3]
 rw [key, hz]
 by_cases h : i < n * k <;> simp [h]

theorem O.buildSlice {T U k bs n : Nat} {z : Value} {parts : List (Nat × Operand)} {ps : List (Nat × AV)} {ys : List AV} [hs : TyS P T U k bs z] (ho : o.op = .buildSlice T n parts.toArray) (hx : evp E parts = some ps) (h1 : vals1 ps = true)
  (hsm : Nat.ble (n * k) 16777216 = true) (hpos : Nat.ble 1 (n * k) = true)
  (hzk : Nat.beq z.cells.size k = true) (hy0 : fillA (fun i => some (i * k, k)) (zerosA n z) ps = some ys) : OpW P N o E H (NewBlk (fun b => .val (.slice (some ⟨b, 0, none⟩) n n)) U (n * k) ys) := fun R a W h0 h2 h3' ha => by
 obtain ⟨i, hi, hik, hib, hz⟩ := hs.el
 obtain ⟨h3, h4⟩ := ha.evp hx
 have hy : fillA (fun i => some (i * k, k)) (((Array.range (n * k)).map (z.cells[· % z.cells.size]!)).toList.map .val) ps = some ys := by
  rw [zeros_cells z k (Nat.eq_of_beq_eq_true hzk) n, List.map_flatten, List.map_replicate]
  exact hy0
 obtain ⟨zs, h5, h6⟩ := fill_rel (W := W) (R := R) (place := fun i => some (i * k, k)) (place' := fun j => some (j * i.size, i.size)) (fun j q h => by rw [hik]; exact h) ps _ _ ys ((Array.range (n * k)).map (z.cells[· % z.cells.size]!)) h3 h4 (vals1_spec h1) (relL_vals R W _) hy
 have hsm := Nat.le_of_ble_eq_true hsm
 have hpos := Nat.le_of_ble_eq_true hpos
 have hlen : ∀ (ps : List (Nat × AV)) (xs ys : List AV), fillA (fun i => some (i * k, k)) xs ps = some ys → ys.length = xs.length := by
  intro ps
  have hsp : ∀ (cs xs : List AV) (off : Nat), (splice xs off cs).length = xs.length := by
   intro cs
   induction cs with
   | nil => intro xs off; rfl
   | cons c r ih => intro xs off; rw [splice, ih]; simp
  induction ps with
  | nil => intro xs ys h; cases h; rfl
  | cons p r ih =>
   intro xs ys h
   unfold fillA at h
   simp only at h
   cases hcond : (Nat.beq p.2.cells.length k && Nat.ble (p.1 * k + p.2.cells.length) xs.length) with
   | false => rw [hcond] at h; cases h
   | true => rw [hcond] at h; rw [ih _ _ h, hsp]
 have hyl : ys.length = n * k := by rw [hlen _ _ _ hy]; simp
 have hzl : zs.size = n * k := by have := h6.1; rw [Array.length_toList] at this; omega
 have hr : (execOp a.eval o).run P W = .ok (.value (.slice (some ⟨W.heap.size, 0, none⟩) n n)) (W.alloc (.cells zs U)) := by
  simp only [execOp, ho]
  rw [Sem.run_bind, run_buildSlice (P := P) W T U n _ zs i z hs.ty hi hz (by rw [hik]; omega) (by rw [hik]; omega) (by rw [hik]; simpa [hik] using h5)]
  rfl
 unfold Oper.wp
 rw [hr]
 refine ⟨_, _, _, R, rfl, ⟨W.heap.size, rfl, rfl⟩, post1_new h0 U zs (n * k) ys hzl ?_ (fun _ _ => .val _)⟩
 rw [List.take_of_length_le (by rw [Array.length_toList]; omega)]
 exact h6

end
end Go.Proofs.YtoonnnifelnaiaaGreatDoor.A

namespace Go.Proofs.YtoonnnifelnaiaaGreatDoor.A
open Go.RowKit L
set_option linter.unusedVariables false
set_option maxRecDepth 20000
set_option linter.unusedSimpArgs false

theorem Mods.setRow {S : Nat → Prop} {a w : World} (h : Mods S a w) {g : Nat} (hg : g < a.heap.size → S g) (cs : Array Value) : Mods S a (w.setRow g cs) :=
 ⟨h.os, h.tape, h.output, by simpa [World.setRow] using h.size, fun k hk hs => (setRow_other w g k cs (fun e => hs (e ▸ hg (e ▸ hk)))).trans (h.block k hk hs)⟩

theorem setCells_row (w : World) (g o : Nat) (vs : List Value) (cur : Array Value) (t : TypeId) (hg : w.heap[g]? = some (.cells cur t (0, 0))) (hfit : o + vs.length ≤ cur.size) (h1 : ∀ v ∈ vs, v.oneCell' = true) :
  w.setCells g o vs = w.setRow g (cur.toList.take o ++ vs ++ cur.toList.drop (o + vs.length)).toArray := by
 have a := run_storeCells_at (default : Program) g o t vs 0 cur w hg (by simpa using hfit) h1
 have b := run_storeCells_cells (P := (default : Program)) g o vs 0 w (fun j hj => by
  rw [cell_of_row w g (o + 0 + j) cur t (0, 0) hg]
  have : o + 0 + j < cur.size := by omega
  simp at this ⊢; omega) (fun j hj => by simp [World.frozen?, hg]) h1
 rw [a] at b
 simp only [Nat.add_zero] at b
 injection b with _ e
 exact e.symm

/-- The state after the block of one entry has got other cells. -/
theorem RelS.setEntry {Γ : Cx} {R : Nat → Prop} {H : List HE} {W W' : World} (h : RelS Γ R H W) {i : Nat} {e e' : HE} (hi : H[i]? = some e) (hm : Mods (fun b => e.foot b) W W') (hf : ∀ b, e'.foot b → e.foot b ∨ (W.heap.size ≤ b))
  (hok : e'.ok R W') : RelS Γ R (H.set i e') W' := by
 obtain ⟨hlt, rfl⟩ := List.getElem?_eq_some_iff.1 hi
 have hmem : H[i] ∈ H := List.getElem_mem hlt
 have hR : ∀ b, R b → W'.heap[b]? = W.heap[b]? := fun b hb => hm.block b (h.rlt b hb) fun hh => (h.own _ hmem b hh).2 hb
 have hother : ∀ j (hj : j < H.length), j ≠ i → ∀ b, H[j].foot b → ¬ H[i].foot b := fun j hj hji b hb hb' => by
  rcases Nat.lt_or_gt_of_ne hji with hlt' | hgt
  ·exact (List.pairwise_iff_getElem.1 h.disj j i hj hlt hlt') b hb hb'
  ·exact (List.pairwise_iff_getElem.1 h.disj i j hlt hj hgt) b hb' hb
 have hold : ∀ j (hj : j < H.length), j ≠ i → ∀ b, H[j].foot b → W'.heap[b]? = W.heap[b]? := fun j hj hji b hb =>
  hm.block b (HE.ok_lt (h.ok _ (List.getElem_mem hj)) hb) (hother j hj hji b hb)
 have hown' : ∀ b, e'.foot b → (Γ.w0.heap.size ≤ b ∨ Γ.S b) ∧ ¬ R b := fun b hb => by
  rcases hf b hb with h1 | h1
  ·exact h.own _ hmem b h1
  ·exact ⟨.inl (Nat.le_trans h.mods.size h1), fun hr => by have := h.rlt b hr; omega⟩
 refine ⟨Mods.then h.mods hm fun b hb hh => ?_, fun b hb => Nat.lt_of_lt_of_le (h.rlt b hb) hm.size, h.rsub, h.rnew, ?_, ?_, ?_⟩
 ·rcases (h.own _ hmem b hh).1 with h1 | h1
  ·omega
  ·exact h1
 ·intro f hfm
  obtain ⟨j, hj, rfl⟩ := List.getElem_of_mem hfm
  rw [List.length_set] at hj
  by_cases hji : i = j
  ·subst hji; rw [List.getElem_set_self]; exact hok
  ·rw [List.getElem_set_ne hji]
   exact HE.ok_mono (fun _ h => h) hR hm.size (hold j hj (Ne.symm hji)) (h.ok _ (List.getElem_mem hj))
 ·intro f hfm b hb
  obtain ⟨j, hj, rfl⟩ := List.getElem_of_mem hfm
  rw [List.length_set] at hj
  by_cases hji : i = j
  ·subst hji; rw [List.getElem_set_self] at hb; exact hown' b hb
  ·rw [List.getElem_set_ne hji] at hb
   exact h.own _ (List.getElem_mem hj) b hb
 ·rw [List.pairwise_iff_getElem]
  intro j k hj hk hjk b hb hb'
  rw [List.length_set] at hj hk
  have dis : ∀ m (hm' : m < H.length), m ≠ i → H[m].foot b → ¬ e'.foot b := fun m hm' hmi h1 h2 => by
   rcases hf b h2 with h3 | h3
   ·exact hother m hm' hmi b h1 h3
   ·have := HE.ok_lt (h.ok _ (List.getElem_mem hm')) h1; omega
  by_cases hij : i = j
  ·subst hij
   rw [List.getElem_set_self] at hb
   rw [List.getElem_set_ne (by omega)] at hb'
   exact dis k hk (by omega) hb' hb
  ·rw [List.getElem_set_ne hij] at hb
   by_cases hik : i = k
   ·subst hik
    rw [List.getElem_set_self] at hb'
    exact dis j hj (Ne.symm hij) hb hb'
   ·rw [List.getElem_set_ne hik] at hb'
    exact (List.pairwise_iff_getElem.1 h.disj j k hj hk hjk) b hb hb'

theorem RelA.keep {N : Nat} {R : Nat → Prop} {W W' : World} {E : Env} {a : Act} (h : RelA N R W E a) (hR : ∀ b, R b → W'.heap[b]? = W.heap[b]?) : RelA N R W' E a := h.mono (fun _ h => h) hR

section
variable {Γ : Cx} {P : Program} {Q : Exit → Act → World → Prop} {E : Env} {H : List HE} {N : Nat} {o : Oper} {ops : Array Oper} {rest : List Oper}

theorem splice_eq : ∀ (cs xs : List AV) (o : Nat), o + cs.length ≤ xs.length → splice xs o cs = xs.take o ++ cs ++ xs.drop (o + cs.length)
 | [], xs, o, h => by simp [splice]
 | c :: r, xs, o, h => by
  simp only [List.length_cons] at h
  rw [splice, splice_eq r _ (o + 1) (by simp; omega)]
  apply List.ext_getElem?
  intro k
  simp only [List.getElem?_append, List.length_append, List.length_take, List.length_set, List.getElem?_take, List.getElem?_drop, List.getElem?_set, List.length_cons]
  by_cases h1 : k < o
  ·simp [h1, show k < o + 1 by omega, show min (o + 1) xs.length = o + 1 by omega, show min o xs.length = o by omega, show k < o + 1 + r.length by omega, show o ≠ k by omega, show k < o + (r.length + 1) by omega]
  ·by_cases h2 : k = o
   ·subst h2; simp [show min (k + 1) xs.length = k + 1 by omega, show min k xs.length = k by omega, show k < k + 1 + r.length by omega, show k < xs.length by omega]
   ·by_cases h3 : k < o + 1 + r.length
    ·simp [show min (o + 1) xs.length = o + 1 by omega, show min o xs.length = o by omega, h1, show ¬ k < o + 1 by omega, h3, show k < o + (r.length + 1) by omega]
     rw [show k - o = (k - (o + 1)) + 1 by omega]; simp
    ·simp [show min (o + 1) xs.length = o + 1 by omega, show min o xs.length = o by omega, h1, show ¬ k < o + 1 by omega, h3, show ¬ k < o + (r.length + 1) by omega]
     rw [show k - (o + 1 + r.length) = k - (o + (r.length + 1)) by omega, show o + 1 + r.length + (k - (o + (r.length + 1))) = o + (r.length + 1) + (k - (o + (r.length + 1))) by omega]
     simp [show o ≠ o + (r.length + 1) + (k - (o + (r.length + 1))) by omega]

/-- A store into a block of the walk's own. -/
theorem AO.store {T : Nat} {p x : Operand} {b j : Nat} {v : AV} {i T' room k : Nat} {xs ys : List AV} {g : Bool} {H' : List HE} [hg : TyG P T g k] (ho : o.op = .store T p x) (hgd : o.guard = none) (hd : o.dst = none)
  (hp : ev E p = some (.val (.pointer (some ⟨b, j, none⟩)))) (hx : ev E x = some v) (hi : H[i]? = some (.blk b T' room xs)) (h1 : v.cells.all AV.one = true) (hk : v.cells.length = k) (hjk : Nat.ble (j + k) xs.length = true)
  (hy : splice xs j v.cells = ys) (hH : H.set i (.blk b T' room ys) = H') (next : AO Γ P ops Q rest E H') : AO Γ P ops Q (o :: rest) E H := fun R a W hs ha => by
 have hjk := Nat.le_of_ble_eq_true hjk
 obtain ⟨d, inf, hd1, hi1, hk1, hg1⟩ := hg.ax
 have hmem := List.mem_of_getElem? hi
 obtain ⟨us, cs, hb, hsz, ht, hr⟩ := hs.ok _ hmem
 have hrv := ha.ev hx
 have hc := hrv.cells (fun u hu => by
  subst hu
  simp only [AV.cells, List.all_cons, List.all_nil, Bool.and_true] at h1
  exact h1) (fun c y hu => by subst hu; cases h1)
 have hone := hc.all_one h1
 have hlen : (a.eval x).cells.toList.length = k := by rw [hc.1, hk]
 have hxs : xs.length ≤ cs.size := by
  have := hr.1
  have h5 : cs.toList.length = cs.size := Array.length_toList
  rw [← ht, List.length_take] at this; omega
 have hrun := run_storeCells_at (P := P) b j T' (a.eval x).cells.toList 0 cs W hb (by rw [hlen]; omega) hone
 have hex : (execOp a.eval o).run P W = .ok .skip (W.setRow b (cs.toList.take j ++ (a.eval x).cells.toList ++ cs.toList.drop (j + k)).toArray) := by
  simp only [execOp, ho, (ha.ev hp).val_inv, Instr.storeAt, Instr.sureAddr, Sem.run_bind, Sem.run_pure, Result.andThen_ok, storeVar, sizeOf, typeInfo, hi1]
  have h5 : (a.eval x).cells.size = inf.size := by rw [Array.length_toList] at hlen; omega
  simp only [run_program, Result.andThen_ok, hi1, Sem.run_pure, h5, ne_eq, not_true_eq_false, if_false]
  rw [hrun, hlen]
  simp
 unfold wpList
 rw [if_pos (by unfold Region.wanted; rw [hgd])]
 refine .inl ?_
 unfold Oper.wp
 rw [hex]
 show wpList P ops Q rest (a.put o.dst undef) _
 rw [hd]
 have hm : Mods (fun c => (HE.blk b T' room xs).foot c) W (W.setRow b (cs.toList.take j ++ (a.eval x).cells.toList ++ cs.toList.drop (j + k)).toArray) := Mods.setRow (S := fun c => (HE.blk b T' room xs).foot c) (Mods.refl _ _) (fun _ => rfl) _
 have hR : ∀ c, R c → (W.setRow b (cs.toList.take j ++ (a.eval x).cells.toList ++ cs.toList.drop (j + k)).toArray).heap[c]? = W.heap[c]? := fun c hc => hm.block c (hs.rlt c hc) fun hh => (hs.own _ hmem c hh).2 hc
 subst hH
 refine next R a _ (hs.setEntry hi hm (fun c hc => .inl hc) ?_) (ha.keep hR)
 refine ⟨_, _, setRow_heap W b cs _ T' _ hb, ?_, rfl, ?_⟩
 ·rw [List.size_toArray, List.length_append, List.length_append, List.length_take, List.length_drop, Array.length_toList, hlen]; omega
 ·rw [← hy, splice_eq _ _ _ (by rw [hk]; omega), hk]
  have e : (cs.toList.take j ++ (a.eval x).cells.toList ++ cs.toList.drop (j + k)).take (xs.take j ++ v.cells ++ xs.drop (j + k)).length = us.take j ++ (a.eval x).cells.toList ++ us.drop (j + k) := by
   have hul : us.length = xs.length := hr.1
   apply List.ext_getElem?
   intro q
   subst ht
   simp only [List.getElem?_take, List.getElem?_append, List.length_append, List.length_take, List.length_drop, hlen, hk, Array.length_toList, List.getElem?_drop]
   by_cases q1 : q < j
   ·simp [q1, show q < xs.length by omega, show q < min j xs.length + k + (xs.length - (j + k)) by omega, show q < min j cs.size + k by omega, show q < min j cs.size by omega, show q < min j (min xs.length cs.size) + k by omega, show q < min j (min xs.length cs.size) by omega]
   ·by_cases q2 : q < j + k
    ·simp [show min j xs.length = j by omega, show min j cs.size = j by omega, show min xs.length cs.size = xs.length by omega, q1, q2, show q < j + k + (xs.length - (j + k)) by omega]
    ·by_cases q3 : q < xs.length
     ·simp [show min j xs.length = j by omega, show min j cs.size = j by omega, show min xs.length cs.size = xs.length by omega, q1, q2, show q < j + k + (xs.length - (j + k)) by omega, show j + k + (q - (j + k)) < xs.length by omega]
     ·simp [show min j xs.length = j by omega, show min j cs.size = j by omega, show min xs.length cs.size = xs.length by omega, q1, q2, show ¬ q < j + k + (xs.length - (j + k)) by omega, show ¬ j + k + (q - (j + k)) < xs.length by omega]
  show RelL R _ _ (List.take _ (cs.toList.take j ++ (a.eval x).cells.toList ++ cs.toList.drop (j + k)))
  rw [e]
  exact (((hr.take j).app (by exact hc)).app (hr.drop (j + k))).mono (fun _ h => h) hR

/-! What is appended. -/

/-- The second argument of an append: n elements, these cells. -/
def SrcA (P : Program) (T sz : Nat) (H : List HE) (x : AV) (n : Nat) (ys : List AV) : Prop :=
 ys.length = n * sz ∧ ∀ R W u, (∀ e ∈ H, e.ok R W) → RelV R W x u → ∃ us, RelL R W ys us ∧ ((∀ v ∈ us, v.oneCell' = true) → Src P sz T u n us W)

theorem SrcA.ro {T U sz n : Nat} {full : Bool} {ys : List AV} (ht : P.underlying T = some (.slice U)) (hl : ys.length = n * sz) (hz : 0 < sz) : SrcA P T sz H (.ro full n ys) n ys := by
 refine ⟨hl, fun R W u _ hv => ?_⟩
 cases hv with
 | emp _ ad cap h1 h2 =>
  refine ⟨[], RelL.nil, fun _ => ?_⟩
  cases ad with
  | none => exact Src.ofNil W ht cap
  | some ad => exact Src.ofSlice W ht ad 0 cap [] (by simp) (fun j v h => by simp at h) (fun u h => by cases h)
 | ro _ _ _ b off cap us hb hc hr h1 h2 h3 =>
  refine ⟨(List.range ys.length).map us, ⟨by simp, fun j hj => ?_⟩, fun h9 => Src.ofSlice W ht ⟨b, off, none⟩ n cap _ (by simpa using hl) (fun j v h => ?_) h9⟩
  ·have : ((List.range ys.length).map us).getD j undef = us j := by simp [List.getD, hj]
   rw [this]; exact hr j hj
  ·obtain ⟨h4, rfl⟩ := List.getElem?_eq_some_iff.1 h
   simp at h4
   rw [addr_add]
   simpa using hc j h4
theorem SrcA.nil {T U sz : Nat} (ht : P.underlying T = some (.slice U)) : SrcA P T sz H (.val (.slice none 0 0)) 0 [] :=
 ⟨by simp, fun R W u _ hv => by rw [hv.val_inv]; exact ⟨[], RelL.nil, fun _ => Src.ofNil W ht 0⟩⟩
theorem SrcA.blk {T U sz n cap b off T' room : Nat} {xs ys : List AV} (ht : P.underlying T = some (.slice U)) (hm : HE.blk b T' room xs ∈ H) (hy : (xs.drop off).take (n * sz) = ys) (hl : ys.length = n * sz) : SrcA P T sz H (.val (.slice (some ⟨b, off, none⟩) n cap)) n ys := by
 refine ⟨hl, fun R W u hok hv => ?_⟩
 rw [hv.val_inv]
 obtain ⟨us, cs, hb, hsz, hts, hr⟩ := hok _ hm
 have hrl := (hr.drop off).take (n * sz)
 rw [hy] at hrl
 refine ⟨_, hrl, fun h9 => Src.ofSlice W ht ⟨b, off, none⟩ n cap _ (by rw [hrl.1, hl]) (fun j v h => ?_) h9⟩
 rw [addr_add, cell_of_row W b (off + j) cs T' (0, 0) hb]
 rw [List.getElem?_take] at h
 split at h
 ·rw [List.getElem?_drop, ← hts, List.getElem?_take] at h
  split at h
  ·simpa using h
  ·cases h
 ·cases h
theorem SrcA.row {T U T' sz n : Nat} {v : Value} {ys : List AV} (ht : P.underlying T = some (.slice U)) (hm : HE.row v T' sz n ys ∈ H) (hl : ys.length = n * sz) : SrcA P T sz H (.val v) n ys := by
 refine ⟨hl, fun R W u hok hv => ?_⟩
 rw [hv.val_inv]
 obtain ⟨us, hw, hr⟩ := hok _ hm
 refine ⟨us, hr, fun h9 => ?_⟩
 rcases hw.2 with ⟨rfl, rfl⟩ | ⟨g, cap, cur, rfl, hbg, hg, h1, h2, h3, h4⟩
 ·have : us = [] := List.eq_nil_of_length_eq_zero (by simpa using hw.1)
  subst this
  exact Src.ofNil W ht 0
 ·exact Src.ofSlice W ht ⟨g, 0, none⟩ n cap us (by rw [hr.1, hl]) (hw.cells (g := g) rfl) h9
theorem SrcA.str {T : Nat} {s : ByteArray} {ys : List AV} (ht : P.underlying T = some .string) (hy : (byteCells s).map .val = ys) : SrcA P T 1 H (.val (.string s)) s.size ys :=
 ⟨by subst hy; rw [List.length_map, byteCells_length, Nat.mul_one], fun R W u hok hv => by
  rw [hv.val_inv]
  subst hy
  exact ⟨byteCells s, relL_vals R W _, fun _ => Src.ofString W ht s⟩⟩

/-- An append to a row of the walk's own. -/
theorem run_append_row {T U T2 k bs : Nat} {z : Value} (hs : TyS P T U k bs z) (hz : z.cells.size = k) (hk : 0 < k) {W : World} {v : Value} {n m : Nat} {us news : List Value} (hown : W.ownsRow 0 U k v n us) {x : Value} (hsrc : Src P k T2 x m news W)
  (h63 : n + m ≤ maxLen) (hby : (n + m) * bs ≤ 140737488355328) (ty : TypeId) :
  ∃ v' W', (Builtin.append_ #[T, T2] ty #[v, x]).run P W = .ok v' W' ∧ W'.ownsRow 0 U k v' (n + m) (us ++ news) ∧ W.grownBy W' v.ownBlock ∧ (v'.ownBlock = v.ownBlock ∨ v'.ownBlock = some W.heap.size) ∧ v'.oneCell' = true := by
 obtain ⟨i, hi, hik, hib, hiz⟩ := hs.el
 have hsmall : n + m ≤ 9223372036854775807 := by simp only [maxLen] at h63; omega
 have hlen : (us ++ news).length = (n + m) * k := by rw [List.length_append, hown.1, hsrc.newsLen, Nat.add_mul]
 have hsrc' : Src P i.size T2 x m news W := by rw [hik]; exact hsrc
 have grown : ∀ (old : Nat), old < n + m → ∀ (row : Option Nat),
   (W.drew.alloc (.cells ((us ++ news).toArray ++ Builtin.zeroCells z.cells (grownCap W (n + m) old U - (n + m))) U)).ownsRow 0 U k
    (.slice (some ⟨W.heap.size, 0, none⟩) (n + m) (grownCap W (n + m) old U)) (n + m) (us ++ news) ∧
   W.grownBy (W.drew.alloc (.cells ((us ++ news).toArray ++ Builtin.zeroCells z.cells (grownCap W (n + m) old U - (n + m))) U)) row := by
  intro old ho row
  have hge := grownCap_ge W (n + m) old U
  have hcm : grownCap W (n + m) old U ≤ maxLen := grownCap_le_maxLen W (n + m) old U h63
  refine ⟨⟨hlen, .inr ⟨W.heap.size, _, _, rfl, Nat.zero_le _, heap_alloc_new W.drew _, hge, hcm, ?_, ?_⟩⟩, ⟨rfl, rfl, rfl, by simp, fun q hq _ => Below.heap_alloc W.drew _ q hq⟩⟩
  ·rw [Array.size_append, List.size_toArray, size_zeroCells, hz, hlen, ← Nat.add_mul]
   congr 1
   omega
  ·rw [Array.toList_append, ← hlen]
   exact List.take_left
 rcases hown.2 with ⟨rfl, rfl⟩ | ⟨g, cap, cur, rfl, hbg, hg, hnc, hcm, hcs, htake⟩
 ·have hx : us = [] := List.eq_nil_of_length_eq_zero (by simpa using hown.1)
  subst hx
  by_cases hm : m = 0
  ·subst hm
   have hn : news = [] := List.eq_nil_of_length_eq_zero (by simpa using hsrc.newsLen)
   subst hn
   exact ⟨_, _, run_append_nothing (P := P) W T T2 ty U i hs.ty hi none 0 0 (Nat.le_refl _) x hsrc', World.ownsRow_nil .., ⟨rfl, rfl, rfl, Nat.le_refl _, fun _ _ _ => rfl⟩, .inl rfl, rfl⟩
  ·have hr := run_append_grow_src (P := P) W T T2 ty U i z hs.ty hi hiz none 0 0 [] (by simp [Builtin.firstCells]) x m news hsrc' (by omega) (by omega) (growslice_fits (by omega) (by rw [hib]; exact hby))
   have hgr := grown 0 (by omega) (Value.ownBlock (.slice none 0 0))
   simp only [List.nil_append] at hgr hr ⊢
   exact ⟨_, _, hr, hgr.1, hgr.2, .inr rfl, rfl⟩
 ·by_cases hroom : n + m ≤ cap
  ·have hfit : n * k + news.length ≤ cur.size := by rw [hsrc.newsLen, hcs, ← Nat.add_mul]; exact Nat.mul_le_mul_right _ hroom
   have hr := run_append_room_src (P := P) W T T2 ty U i hs.ty hi g 0 n cap x m news hsrc' hroom (fun j hj => by
    rw [cell_of_row W g _ cur U (0, 0) hg]
    have : 0 + n * i.size + j < cur.size := by rw [hik]; omega
    simp at this ⊢; omega) (fun j hj => by simp [World.frozen?, hg])
   rw [hik, Nat.zero_add, setCells_row W g (n * k) news cur U hg hfit hsrc.one] at hr
   refine ⟨_, _, hr, ⟨hlen, .inr ⟨g, cap, _, rfl, Nat.zero_le _, setRow_heap W g cur _ U _ hg, hroom, hcm, ?_, ?_⟩⟩, ⟨rfl, rfl, rfl, by simp [World.setRow], fun q _ hq => setRow_other W g q _ (fun e => hq (by simp [Value.ownBlock, e]))⟩, .inl rfl, rfl⟩
   ·simp only [List.size_toArray, List.length_append, List.length_take, List.length_drop, Array.length_toList]
    omega
   ·show List.take _ (cur.toList.take (n * k) ++ news ++ cur.toList.drop (n * k + news.length)) = _
    rw [htake, ← hlen]
    exact List.take_left
  ·have holds : (Builtin.firstCells i.size n (.slice (some ⟨g, 0, none⟩) n cap)).run P W.drew = .ok us.toArray W.drew := by
    have := run_firstCells_some (P := P) W.drew i.size n ⟨g, 0, none⟩ n cap us (by rw [hik]; exact hown.1) (by simpa using hown.cells (g := g) rfl)
    exact this
   have hr := run_append_grow_src (P := P) W T T2 ty U i z hs.ty hi hiz (some ⟨g, 0, none⟩) n cap us holds x m news hsrc' (by omega) (by omega) (growslice_fits (by omega) (by rw [hib]; exact hby))
   have hgr := grown cap (by omega) (Value.ownBlock (.slice (some ⟨g, 0, none⟩) n cap))
   exact ⟨_, _, hr, hgr.1, hgr.2, .inr rfl, rfl⟩

theorem append_exec {T T2 : Nat} {s x : Operand} (ho : o.op = .call { callee := .builtin .append, args := #[s, x], argTypes := #[T, T2] }) {a : Act} {W W' : World} {v' : Value} (hr : (Builtin.append_ #[T, T2] o.type #[a.eval s, a.eval x]).run P W = .ok v' W') :
  (execOp a.eval o).run P W = .ok (.value v') W' := by
 simp only [execOp, ho, resolve, invoke, builtin, Sem.run_bind, Sem.run_pure, Result.andThen_ok, List.map_toArray, List.map_cons, List.map_nil, hr]

theorem AO.append {T T2 U k bs d : Nat} {z : Value} {s x : Operand} {v : Value} {w : AV} {i n m : Nat} {xs ys : List AV} [hs : TyS P T U k bs z] (ho : o.op = .call { callee := .builtin .append, args := #[s, x], argTypes := #[T, T2] }) (hgd : o.guard = none) (hd : o.dst = some d) (hN : d < Γ.N)
  (hz : Nat.beq z.cells.size k = true) (hk : Nat.ble 1 k = true) (hv : ev E s = some (.val v)) (hx : ev E x = some w) (hi : H[i]? = some (.row v U k n xs)) (hsrc : SrcA P T2 k H w m ys) (hone : ys.all AV.one = true) (hn : n + m ≤ maxLen) (hby : (n + m) * bs ≤ 140737488355328)
  (next : ∀ v' : Value, v'.oneCell' = true → AO Γ P ops Q rest ((d, .val v') :: E) (H.set i (.row v' U k (n + m) (xs ++ ys)))) : AO Γ P ops Q (o :: rest) E H := fun R a W hs' ha => by
 have hmem := List.mem_of_getElem? hi
 obtain ⟨us, hown, hr⟩ := hs'.ok _ hmem
 obtain ⟨news, h1, h2⟩ := hsrc.2 R W (a.eval x) hs'.ok (ha.ev hx)
 obtain ⟨v', W', hrun, hown', hgr, hblk, h1c⟩ := run_append_row hs (Nat.eq_of_beq_eq_true hz) (Nat.le_of_ble_eq_true hk) hown (h2 (h1.all_one hone)) hn hby o.type
 unfold wpList
 rw [if_pos (by unfold Region.wanted; rw [hgd])]
 refine .inl ?_
 unfold Oper.wp
 rw [append_exec ho (by rw [(ha.ev hv).val_inv]; exact hrun)]
 show wpList P ops Q rest (a.put o.dst v') W'
 rw [hd]
 have hm : Mods (fun c => (HE.row v U k n xs).foot c) W W' := Mods.grown (Mods.refl _ _) hgr fun c hc _ => hc
 have hR : ∀ c, R c → W'.heap[c]? = W.heap[c]? := fun c hc => hm.block c (hs'.rlt c hc) fun hh => (hs'.own _ hmem c hh).2 hc
 refine next v' h1c R _ W' (hs'.setEntry hi hm (fun c hc => ?_) ⟨_, hown', (hr.app h1).mono (fun _ h => h) hR⟩) ((ha.keep hR).put hN (.val _))
 rcases hblk with hb | hb
 ·exact .inl (by rw [HE.foot] at hc ⊢; rw [← hb]; exact hc)
 ·rw [HE.foot, hb] at hc; cases hc; exact .inr (Nat.le_refl _)

def NewRow (U k n : Nat) (xs : List AV) : AV → List HE → Prop := fun v' Hn => ∃ v : Value, v' = .val v ∧ v.oneCell' = true ∧ Hn = [.row v U k n xs]

/-! ### What is known, told in other words -/

theorem G.freezeRow {X : Act → World → Prop} (i : Nat) {v : Value} {T sz n : Nat} {xs : List AV} (hi : H[i]? = some (.row v T sz n xs)) (ts : List Nat) (ht : ∀ t ∈ ts, look E t = some (.val v)) (k : G Γ (ts.map (·, .ro false n xs) ++ E) (H.eraseIdx i) X) : G Γ E H X := fun R a W hs ha => by
 have hmem := List.mem_of_getElem? hi
 obtain ⟨hlt, he⟩ := List.getElem?_eq_some_iff.1 hi
 have hsub : (H.eraseIdx i).Sublist H := List.eraseIdx_sublist _ _
 have hdis : ∀ f ∈ H.eraseIdx i, ∀ b, f.foot b → ¬ (HE.row v T sz n xs).foot b := fun f hf b hb hb' => by
  obtain ⟨j, hj, rfl⟩ := List.getElem_of_mem hf
  rw [List.getElem_eraseIdx] at hb
  rw [List.length_eraseIdx, if_pos hlt] at hj
  split at hb
  ·exact (List.pairwise_iff_getElem.1 hs.disj j i (by omega) hlt (by omega)) b hb (by rw [he]; exact hb')
  ·exact (List.pairwise_iff_getElem.1 hs.disj i (j + 1) hlt (by omega) (by omega)) b (by rw [he]; exact hb') hb
 have hRS : ∀ b, R b → R b ∨ (HE.row v T sz n xs).foot b := fun b h => .inl h
 obtain ⟨us, hown, hr⟩ := hs.ok _ hmem
 refine k (fun b => R b ∨ (HE.row v T sz n xs).foot b) a W ⟨hs.mods, ?_, fun b hb => .inl (hs.rsub b hb), ?_, fun e he => HE.ok_mono hRS (fun _ _ => rfl) (Nat.le_refl _) (fun _ _ => rfl) (hs.ok e (hsub.subset he)), ?_, hs.disj.sublist hsub⟩ ?_
 ·rintro b (hb | hb)
  ·exact hs.rlt b hb
  ·exact HE.ok_lt (hs.ok _ hmem) hb
 ·rintro b (hb | hb)
  ·exact hs.rnew b hb
  ·exact .inr (hs.own _ hmem b hb).1
 ·intro e he b hb
  refine ⟨(hs.own e (hsub.subset he) b hb).1, ?_⟩
  rintro (h | h)
  ·exact (hs.own e (hsub.subset he) b hb).2 h
  ·exact hdis e he b hb h
 ·have hA : RelA Γ.N (fun b => R b ∨ (HE.row v T sz n xs).foot b) W E a := ha.mono hRS (fun _ _ => rfl)
  have hV : RelV (fun b => R b ∨ (HE.row v T sz n xs).foot b) W (.ro false n xs) v := by
   have hr' := hr.mono hRS (W' := W) (fun _ _ => rfl)
   rcases hown.2 with ⟨rfl, rfl⟩ | ⟨g, cap, cur, rfl, hbg, hg, h1, h2, h3, h4⟩
   ·have : xs = [] := List.eq_nil_of_length_eq_zero (by rw [← hr.1, hown.1]; simp)
    subst this
    exact .emp _ _ _ (fun h => by cases h) (Nat.zero_le _)
   ·refine .ro false n xs g 0 cap (fun j => us.getD j undef) (.inr rfl) (fun j hj => ?_) (fun j hj => hr'.2 j hj) h1 h2 (fun h => by cases h)
    have hj' : j < us.length := by rw [hr.1]; exact hj
    have := hown.cells (g := g) rfl j us[j] (by simp [hj'])
    rw [addr_add] at this
    rw [this]
    simp [List.getD, hj']
  clear k
  induction ts with
  | nil => exact hA
  | cons t ts ih =>
   refine ⟨hA.defers, hA.size, fun t' w hw => ?_⟩
   simp only [List.map_cons, List.cons_append] at hw
   unfold look at hw
   cases hb : Nat.beq t t' with
   | true =>
    rw [hb] at hw
    have := Nat.eq_of_beq_eq_true hb
    subst this
    cases hw
    have h9 := (hA.slots t _ (ht t (List.mem_cons_self ..))).val_inv
    rw [h9]; exact hV
   | false =>
    rw [hb] at hw
    exact (ih fun t ht' => ht t (List.mem_cons_of_mem _ ht')).slots t' w hw

theorem RelS.setSame {R : Nat → Prop} {W : World} (h : RelS Γ R H W) {i : Nat} {e e' : HE} (hi : H[i]? = some e) (hf : ∀ b, e'.foot b → e.foot b) (hok : e'.ok R W) : RelS Γ R (H.set i e') W :=
 h.setEntry hi (Mods.refl _ _) (fun b hb => .inl (hf b hb)) hok

/-- A row that is not empty is a block. -/
theorem G.openRow {X : Act → World → Prop} (i : Nat) {v : Value} {T sz n : Nat} {xs : List AV} (hi : H[i]? = some (.row v T sz n xs)) (hn : 0 < n)
  (k : ∀ b cap, n ≤ cap → cap ≤ maxLen → xs.length = n * sz → v = .slice (some ⟨b, 0, none⟩) n cap → G Γ E (H.set i (.blk b T (cap * sz) xs)) X) : G Γ E H X := fun R a W hs ha => by
 have hmem := List.mem_of_getElem? hi
 obtain ⟨us, hown, hr⟩ := hs.ok _ hmem
 rcases hown.2 with ⟨rfl, rfl⟩ | ⟨g, cap, cur, rfl, hbg, hg, h1, h2, h3, h4⟩
 ·omega
 ·have hl : xs.length = n * sz := by rw [← hr.1, hown.1]
  refine k g cap h1 h2 hl rfl R a W (hs.setSame hi (fun b hb => ?_) ⟨us, cur, hg, h3, by rw [hl]; exact h4, hr⟩) ha
  cases hb; rfl
/-- A block, from its head on, is a row. -/
theorem G.closeRow {X : Act → World → Prop} (i : Nat) {b T room sz n cap : Nat} {xs : List AV} (hi : H[i]? = some (.blk b T room xs)) (hl : xs.length = n * sz) (hr : cap * sz = room) (hn : n ≤ cap) (hc : cap ≤ maxLen)
  (k : G Γ E (H.set i (.row (.slice (some ⟨b, 0, none⟩) n cap) T sz n xs)) X) : G Γ E H X := fun R a W hs ha => by
 have hmem := List.mem_of_getElem? hi
 obtain ⟨us, cs, hb, hsz, ht, hrl⟩ := hs.ok _ hmem
 refine k R a W (hs.setSame hi (fun c hc => ?_) ⟨us, ⟨by rw [hrl.1, hl], .inr ⟨b, cap, cs, rfl, Nat.zero_le _, hb, hn, hc, by omega, by rw [← hl]; exact ht⟩⟩, hrl⟩) ha
 have : some b = some c := hc
 cases this; rfl
/-- nil is an empty row. -/
theorem G.nilRow {X : Act → World → Prop} (T sz : Nat) (k : G Γ E (.row (.slice none 0 0) T sz 0 [] :: H) X) : G Γ E H X := fun R a W hs ha =>
 k R a W ⟨hs.mods, hs.rlt, hs.rsub, hs.rnew, fun e he => by
   rcases List.mem_cons.1 he with rfl | he
   ·exact ⟨[], World.ownsRow_nil .., RelL.nil⟩
   ·exact hs.ok e he, fun e he b hb => by
   rcases List.mem_cons.1 he with rfl | he
   ·cases hb
   ·exact hs.own e he b hb, List.pairwise_cons.2 ⟨fun f _ b hb => (by cases hb), hs.disj⟩⟩ ha
/-- A block that is written no more: pointers into it, and slices from its head. -/
def Thaw (b : Nat) (xs : List AV) (E : Env) (p : Nat × AV) : Prop :=
 (∃ o, look E p.1 = some (.val (.pointer (some ⟨b, o, none⟩))) ∧ p.2 = .rp xs o) ∨
 (∃ n cap, look E p.1 = some (.val (.slice (some ⟨b, 0, none⟩) n cap)) ∧ p.2 = .ro (Nat.beq n cap) n xs ∧ n ≤ cap ∧ cap ≤ maxLen)
theorem G.freezeBlk {X : Act → World → Prop} (i : Nat) {b T room : Nat} {xs : List AV} (hi : H[i]? = some (.blk b T room xs)) (E1 : Env) (h1 : ∀ p ∈ E1, Thaw b xs E p) (k : G Γ (E1 ++ E) (H.eraseIdx i) X) : G Γ E H X := fun R a W hs ha => by
 have hmem := List.mem_of_getElem? hi
 obtain ⟨hlt, he⟩ := List.getElem?_eq_some_iff.1 hi
 have hsub : (H.eraseIdx i).Sublist H := List.eraseIdx_sublist _ _
 have hdis : ∀ f ∈ H.eraseIdx i, ∀ c, f.foot c → ¬ c = b := fun f hf c hb hb' => by
  obtain ⟨j, hj, rfl⟩ := List.getElem_of_mem hf
  rw [List.getElem_eraseIdx] at hb
  rw [List.length_eraseIdx, if_pos hlt] at hj
  split at hb
  ·exact (List.pairwise_iff_getElem.1 hs.disj j i (by omega) hlt (by omega)) c hb (by rw [he]; exact hb')
  ·exact (List.pairwise_iff_getElem.1 hs.disj i (j + 1) hlt (by omega) (by omega)) c (by rw [he]; exact hb') hb
 have hRS : ∀ c, R c → R c ∨ c = b := fun b h => .inl h
 obtain ⟨us, cs, hb, hsz, ht, hr⟩ := hs.ok _ hmem
 have hcell : ∀ j, j < xs.length → W.cell? ⟨b, j, none⟩ = some (us.getD j undef) := fun j hj => by
  have hj' : j < us.length := by rw [hr.1]; exact hj
  rw [cell_of_row W b j cs T (0, 0) hb]
  have : us[j]? = cs[j]? := by rw [← ht, List.getElem?_take, if_pos hj]; simp
  rw [← this]; simp [List.getD, hj']
 refine k (fun c => R c ∨ c = b) a W ⟨hs.mods, ?_, fun b hb => .inl (hs.rsub b hb), ?_, fun e he => HE.ok_mono hRS (fun _ _ => rfl) (Nat.le_refl _) (fun _ _ => rfl) (hs.ok e (hsub.subset he)), ?_, hs.disj.sublist hsub⟩ ?_
 ·rintro c (hc | rfl)
  ·exact hs.rlt c hc
  ·exact HE.ok_lt (hs.ok _ hmem) rfl
 ·rintro c (hc | rfl)
  ·exact hs.rnew c hc
  ·exact .inr (hs.own _ hmem c rfl).1
 ·intro e he c hc
  refine ⟨(hs.own e (hsub.subset he) c hc).1, ?_⟩
  rintro (h | h)
  ·exact (hs.own e (hsub.subset he) c hc).2 h
  ·exact hdis e he c hc h
 ·have hA : RelA Γ.N (fun c => R c ∨ c = b) W E a := ha.mono hRS (fun _ _ => rfl)
  have hr' : RelL (fun c => R c ∨ c = b) W xs us := hr.mono hRS (fun _ _ => rfl)
  have hV : ∀ p ∈ E1, RelV (fun c => R c ∨ c = b) W p.2 (a.eval (.tmp p.1)) := fun p hp => by
   rcases h1 p hp with ⟨o, h2, h3⟩ | ⟨n, cap, h2, h3, h4, h5⟩
   ·rw [h3, (hA.slots _ _ h2).val_inv]
    have := RelV.rp (R := fun c => R c ∨ c = b) (W := W) xs o b 0 (fun j => us.getD j undef) (.inr rfl) (fun j hj => by rw [Nat.zero_add]; exact hcell j hj) hr'.2
    rwa [Nat.zero_add] at this
   ·rw [h3, (hA.slots _ _ h2).val_inv]
    refine .ro _ n xs b 0 cap (fun j => us.getD j undef) (.inr rfl) (fun j hj => by rw [Nat.zero_add]; exact hcell j hj) hr'.2 h4 h5 (fun h => (Nat.eq_of_beq_eq_true h).symm)
  clear k h1
  induction E1 with
  | nil => exact hA
  | cons p E1 ih =>
   obtain ⟨t, w0⟩ := p
   refine ⟨hA.defers, hA.size, fun t' w hw => ?_⟩
   simp only [List.cons_append] at hw
   unfold look at hw
   cases hb : Nat.beq t t' with
   | true =>
    rw [hb] at hw
    have := Nat.eq_of_beq_eq_true hb
    subst this
    cases hw
    exact hV _ (List.mem_cons_self ..)
   | false =>
    rw [hb] at hw
    exact (ih fun p hp => hV p (List.mem_cons_of_mem _ hp)).slots t' w hw

/-! ### Calls -/

def footOf (H : List HE) : Nat → Prop := fun b => ∃ e ∈ H, e.foot b

/-- What a function does, whatever the world: arguments that read so, blocks that it may write; the yield, and the blocks that are the caller's afterwards. -/
def Sp (P : Program) (f : FuncId) (args : List AV) (H0 : List HE) (Post : AV → List HE → Prop) : Prop :=
 ∀ (W : World) (R : Nat → Prop) (us : List Value), (∀ b, R b → b < W.heap.size) → (∀ e ∈ H0, e.ok R W ∧ ∀ b, e.foot b → ¬ R b) → H0.Pairwise Disj → RelL R W args us →
  Calls P f us.toArray W fun e W' => ∃ u r H' R', e = .returned u ∧ Post r H' ∧ RelS ⟨W, footOf H0, R, 0⟩ R' H' W' ∧ RelV R' W' r u

theorem Sp.mono {f : FuncId} {args : List AV} {H0 : List HE} {Post Post' : AV → List HE → Prop} (h : Sp P f args H0 Post) (hp : ∀ r H, Post r H → Post' r H) : Sp P f args H0 Post' := fun W R us h1 h2 h3 h4 =>
 (h W R us h1 h2 h3 h4).mono fun e W' ⟨u, r, H', R', h5, h6, h7, h8⟩ => ⟨u, r, H', R', h5, hp _ _ h6, h7, h8⟩

def envOf : Nat → List AV → Env
 | _, [] => []
 | k, v :: r => (k, v) :: envOf (k + 1) r

def FnQ (Γ : Cx) (P : Program) (fn : Func) (Post : AV → List HE → Prop) : Exit → Act → World → Prop :=
 bodyPost P fn fun e W' => ∃ u r H' R', e = .returned u ∧ Post r H' ∧ RelS ⟨Γ.w0, Γ.S, Γ.R0, 0⟩ R' H' W' ∧ RelV R' W' r u

theorem Sp.enter {f : FuncId} {args : List AV} {H0 : List HE} {Post : AV → List HE → Prop} {fn : Func} {c : Code} (hf : P.funcs[f]? = some fn) (hb : fn.body = some c) (n : Nat) (hn : fn.ntmps = n) (hl : Nat.ble args.length n = true)
  (h : ∀ w0 R0, AW ⟨w0, footOf H0, R0, n⟩ P (FnQ ⟨w0, footOf H0, R0, n⟩ P fn Post) c (envOf 0 args) H0) : Sp P f args H0 Post := fun W R us h1 h2 h3 h4 => by
 refine calls_of_wp hf hb (h W R R _ W ⟨Mods.refl _ _, h1, fun _ h => h, fun _ h => .inl h, fun e he => (h2 e he).1, fun e he b hb => ⟨.inr ⟨e, he, hb⟩, (h2 e he).2 b hb⟩, h3⟩ ⟨rfl, ?_, ?_⟩)
 ·have := Nat.le_of_ble_eq_true hl
  have h5 := h4.1
  simp [hn]; omega
 ·intro t v ht
  have key : ∀ (args : List AV) (k : Nat), look (envOf k args) t = some v → k ≤ t ∧ args[t - k]? = some v := by
   intro args
   induction args with
   | nil => intro k h; cases h
   | cons x r ih =>
    intro k h
    unfold envOf look at h
    cases hb : Nat.beq k t with
    | true =>
     rw [hb] at h
     have := Nat.eq_of_beq_eq_true hb
     subst this
     cases h
     exact ⟨Nat.le_refl _, by simp⟩
    | false =>
     rw [hb] at h
     obtain ⟨h5, h6⟩ := ih (k + 1) h
     refine ⟨by omega, ?_⟩
     rw [show t - k = (t - (k + 1)) + 1 by omega]
     simpa using h6
  obtain ⟨_, h5⟩ := key args 0 ht
  obtain ⟨u, h6, h7⟩ := h4.get (j := t) (by simpa using h5)
  have ht' : t < us.length := (List.getElem?_eq_some_iff.1 h6).1
  have hu : us[t] = u := (List.getElem?_eq_some_iff.1 h6).2
  have : Act.eval { tmps := us.toArray ++ Array.replicate (fn.ntmps - us.toArray.size) undef, defers := [] } (.tmp t) = u := by
   simp only [Act.eval, Array.getD]
   rw [dif_pos (by simp; omega)]
   simp [Array.getElem_append, ht', hu]
  rw [this]; exact h7

theorem AQ.ret1 {fn : Func} {Post : AV → List HE → Prop} {t : Nat} {r : AV} {H' : List HE} (hr : fn.results = #[.tmp t]) (ht : look E t = some r) (hH : ∃ H1, H1.Sublist H ∧ H'.Perm H1) (hp : Post r H') : AQ Γ (FnQ Γ P fn Post) .ret E H := fun R a W hs ha => by
 obtain ⟨H1, h1, h2⟩ := hH
 refine ⟨ha.defers, a.eval (.tmp t), ?_, _, r, H', R, rfl, hp, ?_, ha.slots t r ht⟩
 ·simp [results, hr, Act.eval]
 ·have := (hs.sub h1).perm h2
  exact ⟨this.mods, this.rlt, this.rsub, this.rnew, this.ok, this.own, this.disj⟩
theorem AQ.ret2 {fn : Func} {Post : AV → List HE → Prop} {t s : Nat} {r q : AV} {H' : List HE} (hr : fn.results = #[.tmp t, .tmp s]) (ht : look E t = some r) (hs' : look E s = some q) (hH : ∃ H1, H1.Sublist H ∧ H'.Perm H1) (hp : Post (.tup [r, q]) H') : AQ Γ (FnQ Γ P fn Post) .ret E H := fun R a W hs ha => by
 obtain ⟨H1, h1, h2⟩ := hH
 refine ⟨ha.defers, .tuple #[a.eval (.tmp t), a.eval (.tmp s)], ?_, _, _, H', R, rfl, hp, ?_, (RelL.cons (ha.slots t r ht) (RelL.cons (ha.slots s q hs') RelL.nil)).toTup⟩
 ·simp [results, hr, Act.eval]
 ·have := (hs.sub h1).perm h2
  exact ⟨this.mods, this.rlt, this.rsub, this.rnew, this.ok, this.own, this.disj⟩
/-- A result that lies in a box. -/
theorem AQ.retCell {fn : Func} {Post : AV → List HE → Prop} {t T k b T' room : Nat} {xs ys : List AV} {H' : List HE} [hg : TyG P T true k] (hr : fn.results = #[.cell t T]) (ht : look E t = some (.val (.pointer (some ⟨b, 0, none⟩)))) (hm : HE.blk b T' room xs ∈ H) (hv : xs.take k = ys) (hk : ys.length = k)
  (hH : ∃ H1, H1.Sublist H ∧ H'.Perm H1) (hp : Post (.agg ys) H') : AQ Γ (FnQ Γ P fn Post) .ret E H := fun R a W hs ha => by
 obtain ⟨H1, h1, h2⟩ := hH
 obtain ⟨us, cs, hb, hsz, hts, hrl⟩ := hs.ok _ hm
 have hrl := hrl.take k
 rw [hv] at hrl
 have hl := run_loadVarK hg W b 0 (us.take k) (by rw [hrl.1, hk]) (fun i u hi => by
  rw [cell_of_row W b (0 + i) cs T' (0, 0) hb]
  rw [List.getElem?_take] at hi
  split at hi
  ·rw [← hts, List.getElem?_take] at hi
   split at hi
   ·simpa using hi
   ·cases hi
  ·cases hi)
 have hv' := (ha.slots t _ ht).val_inv
 refine ⟨ha.defers, .agg (us.take k).toArray, ?_, _, _, H', R, rfl, hp, ?_, hrl.toAgg⟩
 ·have : a.tmps.getD t undef = .pointer (some ⟨b, 0, none⟩) := hv'
  simp [results, hr] at *
  simp [this, asAddr, hl]
 ·have := (hs.sub h1).perm h2
  exact ⟨this.mods, this.rlt, this.rsub, this.rnew, this.ok, this.own, this.disj⟩

theorem fn_post1 {R : Nat → Prop} {W W' : World} {r : AV} {u : Value} {H' : List HE} {R' : Nat → Prop} (hs : RelS ⟨W, footOf [], R, 0⟩ R' H' W') (hv : RelV R' W' r u) (h1 : ∀ b, R b → b < W.heap.size) : Post1 R W r H' u W' R' := by
 have hno : ∀ b, ¬ footOf [] b := fun b ⟨e, he, _⟩ => by cases he
 refine ⟨hs.mods.mono fun b _ hb => (hno b hb).elim, hs.rsub, fun b hb => ?_, hv, fun e he => ⟨hs.ok e he, fun b hb => ?_⟩, hs.disj⟩
 ·rcases hs.rnew b hb with h | h | h
  ·exact .inl h
  ·exact .inr ⟨h, hs.rlt b hb⟩
  ·exact (hno b h).elim
 ·obtain ⟨h2, h3⟩ := hs.own e he b hb
  exact ⟨h2.resolve_right (hno b), h3⟩

/-- A call of a function that writes nothing of the caller's. -/
theorem O.call {f : FuncId} {xs : List Operand} {ats : Array TypeId} {args : List AV} {Post : AV → List HE → Prop} {fn : Func} (ho : o.op = .call { callee := .value (.func f), args := xs.toArray, argTypes := ats }) (hfn : P.funcs[f]? = some fn) (hn : (fn.name == "runtime.NumGoroutine") = false) (hb : fn.body.isNone = false)
  (hx : evs E xs = some args) (h : Sp P f args [] Post) : OpW P N o E H Post := fun R a W h0 h2 h3 ha => by
 unfold Oper.wp
 rw [run_callF ho hfn hn hb, List.map_toArray]
 have hc := h W R (xs.map a.eval) h0 (fun e he => by cases he) .nil (ha.evs hx)
 refine Calls.mono hc ?_
 rintro e W' ⟨u, r, H', R', rfl, hP, hs, hv⟩
 exact ⟨u, r, H', R', rfl, hP, fn_post1 hs hv h0⟩
/-- A call of a function that may write blocks of the caller's. -/
theorem AO.callM {f : FuncId} {d : Nat} {xs : List Operand} {ats : Array TypeId} {args : List AV} {H0 H1 : List HE} {Post : AV → List HE → Prop} {fn : Func} (ho : o.op = .call { callee := .value (.func f), args := xs.toArray, argTypes := ats }) (hgd : o.guard = none) (hfn : P.funcs[f]? = some fn) (hn : (fn.name == "runtime.NumGoroutine") = false) (hb : fn.body.isNone = false)
  (hx : evs E xs = some args) (hd : o.dst = some d) (hN : d < Γ.N) (hH : H.Perm (H0 ++ H1)) (h : Sp P f args H0 Post) (next : ∀ r H', Post r H' → AO Γ P ops Q rest ((d, r) :: E) (H' ++ H1)) : AO Γ P ops Q (o :: rest) E H := fun R a W hs ha => by
 have hs0 := hs.perm hH.symm
 have hc := h W R (xs.map a.eval) hs.rlt (fun e he => ⟨hs0.ok e (List.mem_append_left _ he), fun b hb => (hs0.own e (List.mem_append_left _ he) b hb).2⟩) (List.pairwise_append.1 hs0.disj).1 (ha.evs hx)
 unfold wpList
 rw [if_pos (by unfold Region.wanted; rw [hgd])]
 refine .inl ?_
 unfold Oper.wp
 rw [run_callF ho hfn hn hb, List.map_toArray]
 refine Calls.mono hc ?_
 rintro e W' ⟨u, r, H', R', rfl, hP, hs', hv⟩
 show wpList P ops Q rest (a.put o.dst u) W'
 rw [hd]
 have hS0 : ∀ b, footOf H0 b → Γ.w0.heap.size ≤ b ∨ Γ.S b := fun b ⟨e, he, hb⟩ => (hs0.own e (List.mem_append_left _ he) b hb).1
 have hnR : ∀ b, footOf H0 b → ¬ R b := fun b ⟨e, he, hb⟩ => (hs0.own e (List.mem_append_left _ he) b hb).2
 have h1lt : ∀ e ∈ H1, ∀ b, e.foot b → b < W.heap.size := fun e he b hb => HE.ok_lt (hs0.ok e (List.mem_append_right _ he)) hb
 have h10 : ∀ e ∈ H1, ∀ b, e.foot b → ¬ footOf H0 b := fun e he b hb ⟨f, hf, hb'⟩ => (List.pairwise_append.1 hs0.disj).2.2 f hf e he b hb' hb
 have hR : ∀ b, R b → W'.heap[b]? = W.heap[b]? := fun b hb => hs'.mods.block b (hs.rlt b hb) fun hh => hnR b hh hb
 refine next r H' hP R' _ W' ⟨Mods.then hs.mods hs'.mods fun b hb hh => ?_, hs'.rlt, fun b hb => hs'.rsub b (hs.rsub b hb), fun b hb => ?_, ?_, ?_, ?_⟩ ((ha.mono hs'.rsub hR).put hN hv)
 ·rcases hS0 b hh with h | h
  ·omega
  ·exact h
 ·rcases hs'.rnew b hb with h | h | h
  ·exact hs.rnew b h
  ·exact .inr (.inl (Nat.le_trans hs.mods.size h))
  ·exact .inr (hS0 b h)
 ·intro e he
  rcases List.mem_append.1 he with he | he
  ·exact hs'.ok e he
  ·exact HE.ok_mono hs'.rsub hR hs'.mods.size (fun b hb => hs'.mods.block b (h1lt e he b hb) (h10 e he b hb)) (hs0.ok e (List.mem_append_right _ he))
 ·intro e he b hb
  rcases List.mem_append.1 he with he | he
  ·obtain ⟨h2, h3⟩ := hs'.own e he b hb
   refine ⟨?_, h3⟩
   rcases h2 with h2 | h2
   ·exact .inl (Nat.le_trans hs.mods.size h2)
   ·exact hS0 b h2
  ·refine ⟨(hs0.own e (List.mem_append_right _ he) b hb).1, fun hr => ?_⟩
   rcases hs'.rnew b hr with h | h | h
   ·exact (hs0.own e (List.mem_append_right _ he) b hb).2 h
   ·have h5 := h1lt e he b hb
    exact absurd h (by simpa using h5)
   ·exact h10 e he b hb h
 ·rw [List.pairwise_append]
  refine ⟨hs'.disj, (List.pairwise_append.1 hs0.disj).2.1, fun e he f hf b hb hb' => ?_⟩
  rcases (hs'.own e he b hb).1 with h | h
  ·have h5 := h1lt f hf b hb'
   exact absurd h (by simpa using h5)
  ·exact h10 f hf b hb' h

end
end Go.Proofs.YtoonnnifelnaiaaGreatDoor.A

namespace Go.Proofs.YtoonnnifelnaiaaGreatDoor.A
set_option maxRecDepth 20000
instance n1 : TyN Tryz.prog 1 1 8 (.nilFunc) := ⟨Tryz.t1, Tryz.type1, rfl, rfl, rfl⟩
instance g1 : TyG Tryz.prog 1 false 1 := ⟨_, Tryz.t1, Tryz.underlying1, Tryz.type1, rfl, rfl⟩
instance d2 : TyD Tryz.prog 2 (.int .i64) := ⟨Tryz.underlying2⟩
instance n2 : TyN Tryz.prog 2 1 8 (.int .i64 0) := ⟨Tryz.t2, Tryz.type2, rfl, rfl, rfl⟩
instance g2 : TyG Tryz.prog 2 false 1 := ⟨_, Tryz.t2, Tryz.underlying2, Tryz.type2, rfl, rfl⟩
instance d3 : TyD Tryz.prog 3 (.int .i64) := ⟨Tryz.underlying3⟩
instance n3 : TyN Tryz.prog 3 1 8 (.int .i64 0) := ⟨Tryz.t3, Tryz.type3, rfl, rfl, rfl⟩
instance g3 : TyG Tryz.prog 3 false 1 := ⟨_, Tryz.t3, Tryz.underlying3, Tryz.type3, rfl, rfl⟩
instance d4 : TyD Tryz.prog 4 (.bool) := ⟨Tryz.underlying4⟩
instance n4 : TyN Tryz.prog 4 1 1 (.bool false) := ⟨Tryz.t4, Tryz.type4, rfl, rfl, rfl⟩
instance g4 : TyG Tryz.prog 4 false 1 := ⟨_, Tryz.t4, Tryz.underlying4, Tryz.type4, rfl, rfl⟩
instance d5 : TyD Tryz.prog 5 (.int .u8) := ⟨Tryz.underlying5⟩
instance n5 : TyN Tryz.prog 5 1 1 (.int .u8 0) := ⟨Tryz.t5, Tryz.type5, rfl, rfl, rfl⟩
instance g5 : TyG Tryz.prog 5 false 1 := ⟨_, Tryz.t5, Tryz.underlying5, Tryz.type5, rfl, rfl⟩
instance d6 : TyD Tryz.prog 6 (.int .u8) := ⟨Tryz.underlying6⟩
instance n6 : TyN Tryz.prog 6 1 1 (.int .u8 0) := ⟨Tryz.t6, Tryz.type6, rfl, rfl, rfl⟩
instance g6 : TyG Tryz.prog 6 false 1 := ⟨_, Tryz.t6, Tryz.underlying6, Tryz.type6, rfl, rfl⟩
instance n7 : TyN Tryz.prog 7 4 24 (.agg #[.int .i64 0, .int .i64 0, .bool false, .int .u8 0]) := ⟨Tryz.t7, Tryz.type7, rfl, rfl, rfl⟩
instance g7 : TyG Tryz.prog 7 true 4 := ⟨_, Tryz.t7, Tryz.underlying7, Tryz.type7, rfl, rfl⟩
instance f7_0 : TyF Tryz.prog 7 0 0 := ⟨_, _, Tryz.t2, Tryz.underlying7, rfl, rfl, Tryz.type2, by decide⟩
instance f7_1 : TyF Tryz.prog 7 1 1 := ⟨_, _, Tryz.t3, Tryz.underlying7, rfl, rfl, Tryz.type3, by decide⟩
instance f7_2 : TyF Tryz.prog 7 2 2 := ⟨_, _, Tryz.t4, Tryz.underlying7, rfl, rfl, Tryz.type4, by decide⟩
instance f7_3 : TyF Tryz.prog 7 3 3 := ⟨_, _, Tryz.t6, Tryz.underlying7, rfl, rfl, Tryz.type6, by decide⟩
instance b7 : TyB Tryz.prog 7 [(0, 1), (1, 1), (2, 1), (3, 1)] (.agg #[.int .i64 0, .int .i64 0, .bool false, .int .u8 0]) := ⟨Tryz.t7, Tryz.type7, rfl, .inl ⟨_, Tryz.underlying7, rfl⟩⟩
instance n8 : TyN Tryz.prog 8 4 24 (.agg #[.int .i64 0, .int .i64 0, .bool false, .int .u8 0]) := ⟨Tryz.t8, Tryz.type8, rfl, rfl, rfl⟩
instance g8 : TyG Tryz.prog 8 true 4 := ⟨_, Tryz.t8, Tryz.underlying8, Tryz.type8, rfl, rfl⟩
instance f8_0 : TyF Tryz.prog 8 0 0 := ⟨_, _, Tryz.t2, Tryz.underlying8, rfl, rfl, Tryz.type2, by decide⟩
instance f8_1 : TyF Tryz.prog 8 1 1 := ⟨_, _, Tryz.t3, Tryz.underlying8, rfl, rfl, Tryz.type3, by decide⟩
instance f8_2 : TyF Tryz.prog 8 2 2 := ⟨_, _, Tryz.t4, Tryz.underlying8, rfl, rfl, Tryz.type4, by decide⟩
instance f8_3 : TyF Tryz.prog 8 3 3 := ⟨_, _, Tryz.t6, Tryz.underlying8, rfl, rfl, Tryz.type6, by decide⟩
instance b8 : TyB Tryz.prog 8 [(0, 1), (1, 1), (2, 1), (3, 1)] (.agg #[.int .i64 0, .int .i64 0, .bool false, .int .u8 0]) := ⟨Tryz.t8, Tryz.type8, rfl, .inl ⟨_, Tryz.underlying8, rfl⟩⟩
instance d9 : TyD Tryz.prog 9 (.string) := ⟨Tryz.underlying9⟩
instance n9 : TyN Tryz.prog 9 1 16 (.string ⟨#[]⟩) := ⟨Tryz.t9, Tryz.type9, rfl, rfl, rfl⟩
instance g9 : TyG Tryz.prog 9 false 1 := ⟨_, Tryz.t9, Tryz.underlying9, Tryz.type9, rfl, rfl⟩
instance d10 : TyD Tryz.prog 10 (.string) := ⟨Tryz.underlying10⟩
instance n10 : TyN Tryz.prog 10 1 16 (.string ⟨#[]⟩) := ⟨Tryz.t10, Tryz.type10, rfl, rfl, rfl⟩
instance g10 : TyG Tryz.prog 10 false 1 := ⟨_, Tryz.t10, Tryz.underlying10, Tryz.type10, rfl, rfl⟩
instance d11 : TyD Tryz.prog 11 (.string) := ⟨Tryz.underlying11⟩
instance n11 : TyN Tryz.prog 11 1 16 (.string ⟨#[]⟩) := ⟨Tryz.t11, Tryz.type11, rfl, rfl, rfl⟩
instance g11 : TyG Tryz.prog 11 false 1 := ⟨_, Tryz.t11, Tryz.underlying11, Tryz.type11, rfl, rfl⟩
instance d12 : TyD Tryz.prog 12 (.int .u64) := ⟨Tryz.underlying12⟩
instance n12 : TyN Tryz.prog 12 1 8 (.int .u64 0) := ⟨Tryz.t12, Tryz.type12, rfl, rfl, rfl⟩
instance g12 : TyG Tryz.prog 12 false 1 := ⟨_, Tryz.t12, Tryz.underlying12, Tryz.type12, rfl, rfl⟩
instance n13 : TyN Tryz.prog 13 2 24 (.agg #[.string ⟨#[]⟩, .int .u64 0]) := ⟨Tryz.t13, Tryz.type13, rfl, rfl, rfl⟩
instance g13 : TyG Tryz.prog 13 true 2 := ⟨_, Tryz.t13, Tryz.underlying13, Tryz.type13, rfl, rfl⟩
instance f13_0 : TyF Tryz.prog 13 0 0 := ⟨_, _, Tryz.t9, Tryz.underlying13, rfl, rfl, Tryz.type9, by decide⟩
instance f13_1 : TyF Tryz.prog 13 1 1 := ⟨_, _, Tryz.t12, Tryz.underlying13, rfl, rfl, Tryz.type12, by decide⟩
instance b13 : TyB Tryz.prog 13 [(0, 1), (1, 1)] (.agg #[.string ⟨#[]⟩, .int .u64 0]) := ⟨Tryz.t13, Tryz.type13, rfl, .inl ⟨_, Tryz.underlying13, rfl⟩⟩
instance n14 : TyN Tryz.prog 14 2 24 (.agg #[.string ⟨#[]⟩, .int .u64 0]) := ⟨Tryz.t14, Tryz.type14, rfl, rfl, rfl⟩
instance g14 : TyG Tryz.prog 14 true 2 := ⟨_, Tryz.t14, Tryz.underlying14, Tryz.type14, rfl, rfl⟩
instance f14_0 : TyF Tryz.prog 14 0 0 := ⟨_, _, Tryz.t9, Tryz.underlying14, rfl, rfl, Tryz.type9, by decide⟩
instance f14_1 : TyF Tryz.prog 14 1 1 := ⟨_, _, Tryz.t12, Tryz.underlying14, rfl, rfl, Tryz.type12, by decide⟩
instance b14 : TyB Tryz.prog 14 [(0, 1), (1, 1)] (.agg #[.string ⟨#[]⟩, .int .u64 0]) := ⟨Tryz.t14, Tryz.type14, rfl, .inl ⟨_, Tryz.underlying14, rfl⟩⟩
instance d15 : TyD Tryz.prog 15 (.pointer 260) := ⟨Tryz.underlying15⟩
instance n15 : TyN Tryz.prog 15 1 8 (.pointer none) := ⟨Tryz.t15, Tryz.type15, rfl, rfl, rfl⟩
instance g15 : TyG Tryz.prog 15 false 1 := ⟨_, Tryz.t15, Tryz.underlying15, Tryz.type15, rfl, rfl⟩
instance d16 : TyD Tryz.prog 16 (.pointer 263) := ⟨Tryz.underlying16⟩
instance n16 : TyN Tryz.prog 16 1 8 (.pointer none) := ⟨Tryz.t16, Tryz.type16, rfl, rfl, rfl⟩
instance g16 : TyG Tryz.prog 16 false 1 := ⟨_, Tryz.t16, Tryz.underlying16, Tryz.type16, rfl, rfl⟩
instance d17 : TyD Tryz.prog 17 (.pointer 271) := ⟨Tryz.underlying17⟩
instance n17 : TyN Tryz.prog 17 1 8 (.pointer none) := ⟨Tryz.t17, Tryz.type17, rfl, rfl, rfl⟩
instance g17 : TyG Tryz.prog 17 false 1 := ⟨_, Tryz.t17, Tryz.underlying17, Tryz.type17, rfl, rfl⟩
instance n18 : TyN Tryz.prog 18 1 8 (.agg #[.pointer none]) := ⟨Tryz.t18, Tryz.type18, rfl, rfl, rfl⟩
instance g18 : TyG Tryz.prog 18 true 1 := ⟨_, Tryz.t18, Tryz.underlying18, Tryz.type18, rfl, rfl⟩
instance f18_0 : TyF Tryz.prog 18 0 0 := ⟨_, _, Tryz.t17, Tryz.underlying18, rfl, rfl, Tryz.type17, by decide⟩
instance b18 : TyB Tryz.prog 18 [(0, 1)] (.agg #[.pointer none]) := ⟨Tryz.t18, Tryz.type18, rfl, .inl ⟨_, Tryz.underlying18, rfl⟩⟩
instance n19 : TyN Tryz.prog 19 1 8 (.agg #[.pointer none]) := ⟨Tryz.t19, Tryz.type19, rfl, rfl, rfl⟩
instance g19 : TyG Tryz.prog 19 true 1 := ⟨_, Tryz.t19, Tryz.underlying19, Tryz.type19, rfl, rfl⟩
instance f19_0 : TyF Tryz.prog 19 0 0 := ⟨_, _, Tryz.t17, Tryz.underlying19, rfl, rfl, Tryz.type17, by decide⟩
instance b19 : TyB Tryz.prog 19 [(0, 1)] (.agg #[.pointer none]) := ⟨Tryz.t19, Tryz.type19, rfl, .inl ⟨_, Tryz.underlying19, rfl⟩⟩
instance n20 : TyN Tryz.prog 20 1 16 (.nilIface) := ⟨Tryz.t20, Tryz.type20, rfl, rfl, rfl⟩
instance g20 : TyG Tryz.prog 20 false 1 := ⟨_, Tryz.t20, Tryz.underlying20, Tryz.type20, rfl, rfl⟩
instance d21 : TyD Tryz.prog 21 (.int .i32) := ⟨Tryz.underlying21⟩
instance n21 : TyN Tryz.prog 21 1 4 (.int .i32 0) := ⟨Tryz.t21, Tryz.type21, rfl, rfl, rfl⟩
instance g21 : TyG Tryz.prog 21 false 1 := ⟨_, Tryz.t21, Tryz.underlying21, Tryz.type21, rfl, rfl⟩
instance d22 : TyD Tryz.prog 22 (.slice 3) := ⟨Tryz.underlying22⟩
instance n22 : TyN Tryz.prog 22 1 24 (.slice none 0 0) := ⟨Tryz.t22, Tryz.type22, rfl, rfl, rfl⟩
instance g22 : TyG Tryz.prog 22 false 1 := ⟨_, Tryz.t22, Tryz.underlying22, Tryz.type22, rfl, rfl⟩
instance s22 : TyS Tryz.prog 22 3 1 8 (.int .i64 0) := ⟨Tryz.underlying22, Tryz.t3, Tryz.type3, rfl, rfl, rfl⟩
instance n23 : TyN Tryz.prog 23 1 8 (.nilFunc) := ⟨Tryz.t23, Tryz.type23, rfl, rfl, rfl⟩
instance g23 : TyG Tryz.prog 23 false 1 := ⟨_, Tryz.t23, Tryz.underlying23, Tryz.type23, rfl, rfl⟩
instance n24 : TyN Tryz.prog 24 1 8 (.nilFunc) := ⟨Tryz.t24, Tryz.type24, rfl, rfl, rfl⟩
instance g24 : TyG Tryz.prog 24 false 1 := ⟨_, Tryz.t24, Tryz.underlying24, Tryz.type24, rfl, rfl⟩
instance d25 : TyD Tryz.prog 25 (.pointer 105) := ⟨Tryz.underlying25⟩
instance n25 : TyN Tryz.prog 25 1 8 (.pointer none) := ⟨Tryz.t25, Tryz.type25, rfl, rfl, rfl⟩
instance g25 : TyG Tryz.prog 25 false 1 := ⟨_, Tryz.t25, Tryz.underlying25, Tryz.type25, rfl, rfl⟩
instance n26 : TyN Tryz.prog 26 1 8 (.nilFunc) := ⟨Tryz.t26, Tryz.type26, rfl, rfl, rfl⟩
instance g26 : TyG Tryz.prog 26 false 1 := ⟨_, Tryz.t26, Tryz.underlying26, Tryz.type26, rfl, rfl⟩
instance d27 : TyD Tryz.prog 27 (.slice 34) := ⟨Tryz.underlying27⟩
instance n27 : TyN Tryz.prog 27 1 24 (.slice none 0 0) := ⟨Tryz.t27, Tryz.type27, rfl, rfl, rfl⟩
instance g27 : TyG Tryz.prog 27 false 1 := ⟨_, Tryz.t27, Tryz.underlying27, Tryz.type27, rfl, rfl⟩
instance s27 : TyS Tryz.prog 27 34 5 72 (.agg #[.int .i64 0, .slice none 0 0, .slice none 0 0, .int .i64 0, .int .i64 0]) := ⟨Tryz.underlying27, Tryz.t34, Tryz.type34, rfl, rfl, rfl⟩
instance d28 : TyD Tryz.prog 28 (.int .i64) := ⟨Tryz.underlying28⟩
instance n28 : TyN Tryz.prog 28 1 8 (.int .i64 0) := ⟨Tryz.t28, Tryz.type28, rfl, rfl, rfl⟩
instance g28 : TyG Tryz.prog 28 false 1 := ⟨_, Tryz.t28, Tryz.underlying28, Tryz.type28, rfl, rfl⟩
instance n30 : TyN Tryz.prog 30 1 8 (.nilFunc) := ⟨Tryz.t30, Tryz.type30, rfl, rfl, rfl⟩
instance g30 : TyG Tryz.prog 30 false 1 := ⟨_, Tryz.t30, Tryz.underlying30, Tryz.type30, rfl, rfl⟩
instance d31 : TyD Tryz.prog 31 (.slice 5) := ⟨Tryz.underlying31⟩
instance n31 : TyN Tryz.prog 31 1 24 (.slice none 0 0) := ⟨Tryz.t31, Tryz.type31, rfl, rfl, rfl⟩
instance g31 : TyG Tryz.prog 31 false 1 := ⟨_, Tryz.t31, Tryz.underlying31, Tryz.type31, rfl, rfl⟩
instance s31 : TyS Tryz.prog 31 5 1 1 (.int .u8 0) := ⟨Tryz.underlying31, Tryz.t5, Tryz.type5, rfl, rfl, rfl⟩
instance n32 : TyN Tryz.prog 32 1 8 (.nilFunc) := ⟨Tryz.t32, Tryz.type32, rfl, rfl, rfl⟩
instance g32 : TyG Tryz.prog 32 false 1 := ⟨_, Tryz.t32, Tryz.underlying32, Tryz.type32, rfl, rfl⟩
instance n33 : TyN Tryz.prog 33 5 72 (.agg #[.int .i64 0, .slice none 0 0, .slice none 0 0, .int .i64 0, .int .i64 0]) := ⟨Tryz.t33, Tryz.type33, rfl, rfl, rfl⟩
instance g33 : TyG Tryz.prog 33 true 5 := ⟨_, Tryz.t33, Tryz.underlying33, Tryz.type33, rfl, rfl⟩
instance f33_0 : TyF Tryz.prog 33 0 0 := ⟨_, _, Tryz.t3, Tryz.underlying33, rfl, rfl, Tryz.type3, by decide⟩
instance f33_1 : TyF Tryz.prog 33 1 1 := ⟨_, _, Tryz.t31, Tryz.underlying33, rfl, rfl, Tryz.type31, by decide⟩
instance f33_2 : TyF Tryz.prog 33 2 2 := ⟨_, _, Tryz.t31, Tryz.underlying33, rfl, rfl, Tryz.type31, by decide⟩
instance f33_3 : TyF Tryz.prog 33 3 3 := ⟨_, _, Tryz.t3, Tryz.underlying33, rfl, rfl, Tryz.type3, by decide⟩
instance f33_4 : TyF Tryz.prog 33 4 4 := ⟨_, _, Tryz.t3, Tryz.underlying33, rfl, rfl, Tryz.type3, by decide⟩
instance b33 : TyB Tryz.prog 33 [(0, 1), (1, 1), (2, 1), (3, 1), (4, 1)] (.agg #[.int .i64 0, .slice none 0 0, .slice none 0 0, .int .i64 0, .int .i64 0]) := ⟨Tryz.t33, Tryz.type33, rfl, .inl ⟨_, Tryz.underlying33, rfl⟩⟩
instance n34 : TyN Tryz.prog 34 5 72 (.agg #[.int .i64 0, .slice none 0 0, .slice none 0 0, .int .i64 0, .int .i64 0]) := ⟨Tryz.t34, Tryz.type34, rfl, rfl, rfl⟩
instance g34 : TyG Tryz.prog 34 true 5 := ⟨_, Tryz.t34, Tryz.underlying34, Tryz.type34, rfl, rfl⟩
instance f34_0 : TyF Tryz.prog 34 0 0 := ⟨_, _, Tryz.t3, Tryz.underlying34, rfl, rfl, Tryz.type3, by decide⟩
instance f34_1 : TyF Tryz.prog 34 1 1 := ⟨_, _, Tryz.t31, Tryz.underlying34, rfl, rfl, Tryz.type31, by decide⟩
instance f34_2 : TyF Tryz.prog 34 2 2 := ⟨_, _, Tryz.t31, Tryz.underlying34, rfl, rfl, Tryz.type31, by decide⟩
instance f34_3 : TyF Tryz.prog 34 3 3 := ⟨_, _, Tryz.t3, Tryz.underlying34, rfl, rfl, Tryz.type3, by decide⟩
instance f34_4 : TyF Tryz.prog 34 4 4 := ⟨_, _, Tryz.t3, Tryz.underlying34, rfl, rfl, Tryz.type3, by decide⟩
instance b34 : TyB Tryz.prog 34 [(0, 1), (1, 1), (2, 1), (3, 1), (4, 1)] (.agg #[.int .i64 0, .slice none 0 0, .slice none 0 0, .int .i64 0, .int .i64 0]) := ⟨Tryz.t34, Tryz.type34, rfl, .inl ⟨_, Tryz.underlying34, rfl⟩⟩
instance d35 : TyD Tryz.prog 35 (.slice 45) := ⟨Tryz.underlying35⟩
instance n35 : TyN Tryz.prog 35 1 24 (.slice none 0 0) := ⟨Tryz.t35, Tryz.type35, rfl, rfl, rfl⟩
instance g35 : TyG Tryz.prog 35 false 1 := ⟨_, Tryz.t35, Tryz.underlying35, Tryz.type35, rfl, rfl⟩
instance s35 : TyS Tryz.prog 35 45 7 104 (.agg #[.int .i64 0, .int .i64 0, .int .i64 0, .slice none 0 0, .slice none 0 0, .slice none 0 0, .int .i64 0]) := ⟨Tryz.underlying35, Tryz.t45, Tryz.type45, rfl, rfl, rfl⟩
instance n36 : TyN Tryz.prog 36 1 8 (.nilFunc) := ⟨Tryz.t36, Tryz.type36, rfl, rfl, rfl⟩
instance g36 : TyG Tryz.prog 36 false 1 := ⟨_, Tryz.t36, Tryz.underlying36, Tryz.type36, rfl, rfl⟩
instance n38 : TyN Tryz.prog 38 1 8 (.nilFunc) := ⟨Tryz.t38, Tryz.type38, rfl, rfl, rfl⟩
instance g38 : TyG Tryz.prog 38 false 1 := ⟨_, Tryz.t38, Tryz.underlying38, Tryz.type38, rfl, rfl⟩
instance d39 : TyD Tryz.prog 39 (.slice 74) := ⟨Tryz.underlying39⟩
instance n39 : TyN Tryz.prog 39 1 24 (.slice none 0 0) := ⟨Tryz.t39, Tryz.type39, rfl, rfl, rfl⟩
instance g39 : TyG Tryz.prog 39 false 1 := ⟨_, Tryz.t39, Tryz.underlying39, Tryz.type39, rfl, rfl⟩
instance s39 : TyS Tryz.prog 39 74 2 32 (.agg #[.int .i64 0, .slice none 0 0]) := ⟨Tryz.underlying39, Tryz.t74, Tryz.type74, rfl, rfl, rfl⟩
instance n40 : TyN Tryz.prog 40 6 96 (.agg #[.int .i64 0, .int .i64 0, .int .i64 0, .slice none 0 0, .slice none 0 0, .slice none 0 0]) := ⟨Tryz.t40, Tryz.type40, rfl, rfl, rfl⟩
instance g40 : TyG Tryz.prog 40 true 6 := ⟨_, Tryz.t40, Tryz.underlying40, Tryz.type40, rfl, rfl⟩
instance f40_0 : TyF Tryz.prog 40 0 0 := ⟨_, _, Tryz.t3, Tryz.underlying40, rfl, rfl, Tryz.type3, by decide⟩
instance f40_1 : TyF Tryz.prog 40 1 1 := ⟨_, _, Tryz.t3, Tryz.underlying40, rfl, rfl, Tryz.type3, by decide⟩
instance f40_2 : TyF Tryz.prog 40 2 2 := ⟨_, _, Tryz.t3, Tryz.underlying40, rfl, rfl, Tryz.type3, by decide⟩
instance f40_3 : TyF Tryz.prog 40 3 3 := ⟨_, _, Tryz.t31, Tryz.underlying40, rfl, rfl, Tryz.type31, by decide⟩
instance f40_4 : TyF Tryz.prog 40 4 4 := ⟨_, _, Tryz.t39, Tryz.underlying40, rfl, rfl, Tryz.type39, by decide⟩
instance f40_5 : TyF Tryz.prog 40 5 5 := ⟨_, _, Tryz.t31, Tryz.underlying40, rfl, rfl, Tryz.type31, by decide⟩
instance b40 : TyB Tryz.prog 40 [(0, 1), (1, 1), (2, 1), (3, 1), (4, 1), (5, 1)] (.agg #[.int .i64 0, .int .i64 0, .int .i64 0, .slice none 0 0, .slice none 0 0, .slice none 0 0]) := ⟨Tryz.t40, Tryz.type40, rfl, .inl ⟨_, Tryz.underlying40, rfl⟩⟩
instance n41 : TyN Tryz.prog 41 6 96 (.agg #[.int .i64 0, .int .i64 0, .int .i64 0, .slice none 0 0, .slice none 0 0, .slice none 0 0]) := ⟨Tryz.t41, Tryz.type41, rfl, rfl, rfl⟩
instance g41 : TyG Tryz.prog 41 true 6 := ⟨_, Tryz.t41, Tryz.underlying41, Tryz.type41, rfl, rfl⟩
instance f41_0 : TyF Tryz.prog 41 0 0 := ⟨_, _, Tryz.t3, Tryz.underlying41, rfl, rfl, Tryz.type3, by decide⟩
instance f41_1 : TyF Tryz.prog 41 1 1 := ⟨_, _, Tryz.t3, Tryz.underlying41, rfl, rfl, Tryz.type3, by decide⟩
instance f41_2 : TyF Tryz.prog 41 2 2 := ⟨_, _, Tryz.t3, Tryz.underlying41, rfl, rfl, Tryz.type3, by decide⟩
instance f41_3 : TyF Tryz.prog 41 3 3 := ⟨_, _, Tryz.t31, Tryz.underlying41, rfl, rfl, Tryz.type31, by decide⟩
instance f41_4 : TyF Tryz.prog 41 4 4 := ⟨_, _, Tryz.t39, Tryz.underlying41, rfl, rfl, Tryz.type39, by decide⟩
instance f41_5 : TyF Tryz.prog 41 5 5 := ⟨_, _, Tryz.t31, Tryz.underlying41, rfl, rfl, Tryz.type31, by decide⟩
instance b41 : TyB Tryz.prog 41 [(0, 1), (1, 1), (2, 1), (3, 1), (4, 1), (5, 1)] (.agg #[.int .i64 0, .int .i64 0, .int .i64 0, .slice none 0 0, .slice none 0 0, .slice none 0 0]) := ⟨Tryz.t41, Tryz.type41, rfl, .inl ⟨_, Tryz.underlying41, rfl⟩⟩
instance n42 : TyN Tryz.prog 42 1 8 (.nilFunc) := ⟨Tryz.t42, Tryz.type42, rfl, rfl, rfl⟩
instance g42 : TyG Tryz.prog 42 false 1 := ⟨_, Tryz.t42, Tryz.underlying42, Tryz.type42, rfl, rfl⟩
instance n43 : TyN Tryz.prog 43 1 8 (.nilFunc) := ⟨Tryz.t43, Tryz.type43, rfl, rfl, rfl⟩
instance g43 : TyG Tryz.prog 43 false 1 := ⟨_, Tryz.t43, Tryz.underlying43, Tryz.type43, rfl, rfl⟩
instance n44 : TyN Tryz.prog 44 7 104 (.agg #[.int .i64 0, .int .i64 0, .int .i64 0, .slice none 0 0, .slice none 0 0, .slice none 0 0, .int .i64 0]) := ⟨Tryz.t44, Tryz.type44, rfl, rfl, rfl⟩
instance g44 : TyG Tryz.prog 44 true 7 := ⟨_, Tryz.t44, Tryz.underlying44, Tryz.type44, rfl, rfl⟩
instance f44_0 : TyF Tryz.prog 44 0 0 := ⟨_, _, Tryz.t41, Tryz.underlying44, rfl, rfl, Tryz.type41, by decide⟩
instance f44_1 : TyF Tryz.prog 44 1 6 := ⟨_, _, Tryz.t3, Tryz.underlying44, rfl, rfl, Tryz.type3, by decide⟩
instance b44 : TyB Tryz.prog 44 [(0, 6), (6, 1)] (.agg #[.int .i64 0, .int .i64 0, .int .i64 0, .slice none 0 0, .slice none 0 0, .slice none 0 0, .int .i64 0]) := ⟨Tryz.t44, Tryz.type44, rfl, .inl ⟨_, Tryz.underlying44, rfl⟩⟩
instance n45 : TyN Tryz.prog 45 7 104 (.agg #[.int .i64 0, .int .i64 0, .int .i64 0, .slice none 0 0, .slice none 0 0, .slice none 0 0, .int .i64 0]) := ⟨Tryz.t45, Tryz.type45, rfl, rfl, rfl⟩
instance g45 : TyG Tryz.prog 45 true 7 := ⟨_, Tryz.t45, Tryz.underlying45, Tryz.type45, rfl, rfl⟩
instance f45_0 : TyF Tryz.prog 45 0 0 := ⟨_, _, Tryz.t41, Tryz.underlying45, rfl, rfl, Tryz.type41, by decide⟩
instance f45_1 : TyF Tryz.prog 45 1 6 := ⟨_, _, Tryz.t3, Tryz.underlying45, rfl, rfl, Tryz.type3, by decide⟩
instance b45 : TyB Tryz.prog 45 [(0, 6), (6, 1)] (.agg #[.int .i64 0, .int .i64 0, .int .i64 0, .slice none 0 0, .slice none 0 0, .slice none 0 0, .int .i64 0]) := ⟨Tryz.t45, Tryz.type45, rfl, .inl ⟨_, Tryz.underlying45, rfl⟩⟩
instance n47 : TyN Tryz.prog 47 1 8 (.nilFunc) := ⟨Tryz.t47, Tryz.type47, rfl, rfl, rfl⟩
instance g47 : TyG Tryz.prog 47 false 1 := ⟨_, Tryz.t47, Tryz.underlying47, Tryz.type47, rfl, rfl⟩
instance n49 : TyN Tryz.prog 49 1 8 (.nilFunc) := ⟨Tryz.t49, Tryz.type49, rfl, rfl, rfl⟩
instance g49 : TyG Tryz.prog 49 false 1 := ⟨_, Tryz.t49, Tryz.underlying49, Tryz.type49, rfl, rfl⟩
instance n50 : TyN Tryz.prog 50 1 8 (.nilFunc) := ⟨Tryz.t50, Tryz.type50, rfl, rfl, rfl⟩
instance g50 : TyG Tryz.prog 50 false 1 := ⟨_, Tryz.t50, Tryz.underlying50, Tryz.type50, rfl, rfl⟩
instance n51 : TyN Tryz.prog 51 1 8 (.nilFunc) := ⟨Tryz.t51, Tryz.type51, rfl, rfl, rfl⟩
instance g51 : TyG Tryz.prog 51 false 1 := ⟨_, Tryz.t51, Tryz.underlying51, Tryz.type51, rfl, rfl⟩
instance d52 : TyD Tryz.prog 52 (.slice 78) := ⟨Tryz.underlying52⟩
instance n52 : TyN Tryz.prog 52 1 24 (.slice none 0 0) := ⟨Tryz.t52, Tryz.type52, rfl, rfl, rfl⟩
instance g52 : TyG Tryz.prog 52 false 1 := ⟨_, Tryz.t52, Tryz.underlying52, Tryz.type52, rfl, rfl⟩
instance s52 : TyS Tryz.prog 52 78 9 120 (.agg #[.int .i64 0, .int .i64 0, .int .i64 0, .int .i64 0, .slice none 0 0, .slice none 0 0, .slice none 0 0, .int .i64 0, .int .i64 0]) := ⟨Tryz.underlying52, Tryz.t78, Tryz.type78, rfl, rfl, rfl⟩
instance d53 : TyD Tryz.prog 53 (.slice 122) := ⟨Tryz.underlying53⟩
instance n53 : TyN Tryz.prog 53 1 24 (.slice none 0 0) := ⟨Tryz.t53, Tryz.type53, rfl, rfl, rfl⟩
instance g53 : TyG Tryz.prog 53 false 1 := ⟨_, Tryz.t53, Tryz.underlying53, Tryz.type53, rfl, rfl⟩
instance s53 : TyS Tryz.prog 53 122 3 24 (.agg #[.int .i64 0, .int .i64 0, .int .i64 0]) := ⟨Tryz.underlying53, Tryz.t122, Tryz.type122, rfl, rfl, rfl⟩
instance d54 : TyD Tryz.prog 54 (.slice 126) := ⟨Tryz.underlying54⟩
instance n54 : TyN Tryz.prog 54 1 24 (.slice none 0 0) := ⟨Tryz.t54, Tryz.type54, rfl, rfl, rfl⟩
instance g54 : TyG Tryz.prog 54 false 1 := ⟨_, Tryz.t54, Tryz.underlying54, Tryz.type54, rfl, rfl⟩
instance s54 : TyS Tryz.prog 54 126 10 128 (.agg #[.int .i64 0, .int .i64 0, .int .i64 0, .bool false, .int .i64 0, .int .i64 0, .int .i64 0, .slice none 0 0, .slice none 0 0, .slice none 0 0]) := ⟨Tryz.underlying54, Tryz.t126, Tryz.type126, rfl, rfl, rfl⟩
instance n55 : TyN Tryz.prog 55 4 80 (.agg #[.int .i64 0, .slice none 0 0, .slice none 0 0, .slice none 0 0]) := ⟨Tryz.t55, Tryz.type55, rfl, rfl, rfl⟩
instance g55 : TyG Tryz.prog 55 true 4 := ⟨_, Tryz.t55, Tryz.underlying55, Tryz.type55, rfl, rfl⟩
instance f55_0 : TyF Tryz.prog 55 0 0 := ⟨_, _, Tryz.t3, Tryz.underlying55, rfl, rfl, Tryz.type3, by decide⟩
instance f55_1 : TyF Tryz.prog 55 1 1 := ⟨_, _, Tryz.t52, Tryz.underlying55, rfl, rfl, Tryz.type52, by decide⟩
instance f55_2 : TyF Tryz.prog 55 2 2 := ⟨_, _, Tryz.t53, Tryz.underlying55, rfl, rfl, Tryz.type53, by decide⟩
instance f55_3 : TyF Tryz.prog 55 3 3 := ⟨_, _, Tryz.t54, Tryz.underlying55, rfl, rfl, Tryz.type54, by decide⟩
instance b55 : TyB Tryz.prog 55 [(0, 1), (1, 1), (2, 1), (3, 1)] (.agg #[.int .i64 0, .slice none 0 0, .slice none 0 0, .slice none 0 0]) := ⟨Tryz.t55, Tryz.type55, rfl, .inl ⟨_, Tryz.underlying55, rfl⟩⟩
instance n56 : TyN Tryz.prog 56 4 80 (.agg #[.int .i64 0, .slice none 0 0, .slice none 0 0, .slice none 0 0]) := ⟨Tryz.t56, Tryz.type56, rfl, rfl, rfl⟩
instance g56 : TyG Tryz.prog 56 true 4 := ⟨_, Tryz.t56, Tryz.underlying56, Tryz.type56, rfl, rfl⟩
instance f56_0 : TyF Tryz.prog 56 0 0 := ⟨_, _, Tryz.t3, Tryz.underlying56, rfl, rfl, Tryz.type3, by decide⟩
instance f56_1 : TyF Tryz.prog 56 1 1 := ⟨_, _, Tryz.t52, Tryz.underlying56, rfl, rfl, Tryz.type52, by decide⟩
instance f56_2 : TyF Tryz.prog 56 2 2 := ⟨_, _, Tryz.t53, Tryz.underlying56, rfl, rfl, Tryz.type53, by decide⟩
instance f56_3 : TyF Tryz.prog 56 3 3 := ⟨_, _, Tryz.t54, Tryz.underlying56, rfl, rfl, Tryz.type54, by decide⟩
instance b56 : TyB Tryz.prog 56 [(0, 1), (1, 1), (2, 1), (3, 1)] (.agg #[.int .i64 0, .slice none 0 0, .slice none 0 0, .slice none 0 0]) := ⟨Tryz.t56, Tryz.type56, rfl, .inl ⟨_, Tryz.underlying56, rfl⟩⟩
instance d57 : TyD Tryz.prog 57 (.map 3 3) := ⟨Tryz.underlying57⟩
instance n57 : TyN Tryz.prog 57 1 8 (.map none) := ⟨Tryz.t57, Tryz.type57, rfl, rfl, rfl⟩
instance g57 : TyG Tryz.prog 57 false 1 := ⟨_, Tryz.t57, Tryz.underlying57, Tryz.type57, rfl, rfl⟩
instance n59 : TyN Tryz.prog 59 1 8 (.nilFunc) := ⟨Tryz.t59, Tryz.type59, rfl, rfl, rfl⟩
instance g59 : TyG Tryz.prog 59 false 1 := ⟨_, Tryz.t59, Tryz.underlying59, Tryz.type59, rfl, rfl⟩
instance n61 : TyN Tryz.prog 61 1 8 (.nilFunc) := ⟨Tryz.t61, Tryz.type61, rfl, rfl, rfl⟩
instance g61 : TyG Tryz.prog 61 false 1 := ⟨_, Tryz.t61, Tryz.underlying61, Tryz.type61, rfl, rfl⟩
instance n64 : TyN Tryz.prog 64 1 8 (.nilFunc) := ⟨Tryz.t64, Tryz.type64, rfl, rfl, rfl⟩
instance g64 : TyG Tryz.prog 64 false 1 := ⟨_, Tryz.t64, Tryz.underlying64, Tryz.type64, rfl, rfl⟩
instance n65 : TyN Tryz.prog 65 1 8 (.nilFunc) := ⟨Tryz.t65, Tryz.type65, rfl, rfl, rfl⟩
instance g65 : TyG Tryz.prog 65 false 1 := ⟨_, Tryz.t65, Tryz.underlying65, Tryz.type65, rfl, rfl⟩
instance d66 : TyD Tryz.prog 66 (.slice 133) := ⟨Tryz.underlying66⟩
instance n66 : TyN Tryz.prog 66 1 24 (.slice none 0 0) := ⟨Tryz.t66, Tryz.type66, rfl, rfl, rfl⟩
instance g66 : TyG Tryz.prog 66 false 1 := ⟨_, Tryz.t66, Tryz.underlying66, Tryz.type66, rfl, rfl⟩
instance s66 : TyS Tryz.prog 66 133 4 64 (.agg #[.int .i64 0, .slice none 0 0, .slice none 0 0, .int .i64 0]) := ⟨Tryz.underlying66, Tryz.t133, Tryz.type133, rfl, rfl, rfl⟩
instance n68 : TyN Tryz.prog 68 1 8 (.nilFunc) := ⟨Tryz.t68, Tryz.type68, rfl, rfl, rfl⟩
instance g68 : TyG Tryz.prog 68 false 1 := ⟨_, Tryz.t68, Tryz.underlying68, Tryz.type68, rfl, rfl⟩
instance n70 : TyN Tryz.prog 70 1 8 (.nilFunc) := ⟨Tryz.t70, Tryz.type70, rfl, rfl, rfl⟩
instance g70 : TyG Tryz.prog 70 false 1 := ⟨_, Tryz.t70, Tryz.underlying70, Tryz.type70, rfl, rfl⟩
instance n71 : TyN Tryz.prog 71 3 24 (.agg #[.int .i64 0, .bool false, .int .i64 0]) := ⟨Tryz.t71, Tryz.type71, rfl, rfl, rfl⟩
instance g71 : TyG Tryz.prog 71 true 3 := ⟨_, Tryz.t71, Tryz.underlying71, Tryz.type71, rfl, rfl⟩
instance f71_0 : TyF Tryz.prog 71 0 0 := ⟨_, _, Tryz.t3, Tryz.underlying71, rfl, rfl, Tryz.type3, by decide⟩
instance f71_1 : TyF Tryz.prog 71 1 1 := ⟨_, _, Tryz.t4, Tryz.underlying71, rfl, rfl, Tryz.type4, by decide⟩
instance f71_2 : TyF Tryz.prog 71 2 2 := ⟨_, _, Tryz.t3, Tryz.underlying71, rfl, rfl, Tryz.type3, by decide⟩
instance b71 : TyB Tryz.prog 71 [(0, 1), (1, 1), (2, 1)] (.agg #[.int .i64 0, .bool false, .int .i64 0]) := ⟨Tryz.t71, Tryz.type71, rfl, .inl ⟨_, Tryz.underlying71, rfl⟩⟩
instance n72 : TyN Tryz.prog 72 3 24 (.agg #[.int .i64 0, .bool false, .int .i64 0]) := ⟨Tryz.t72, Tryz.type72, rfl, rfl, rfl⟩
instance g72 : TyG Tryz.prog 72 true 3 := ⟨_, Tryz.t72, Tryz.underlying72, Tryz.type72, rfl, rfl⟩
instance f72_0 : TyF Tryz.prog 72 0 0 := ⟨_, _, Tryz.t3, Tryz.underlying72, rfl, rfl, Tryz.type3, by decide⟩
instance f72_1 : TyF Tryz.prog 72 1 1 := ⟨_, _, Tryz.t4, Tryz.underlying72, rfl, rfl, Tryz.type4, by decide⟩
instance f72_2 : TyF Tryz.prog 72 2 2 := ⟨_, _, Tryz.t3, Tryz.underlying72, rfl, rfl, Tryz.type3, by decide⟩
instance b72 : TyB Tryz.prog 72 [(0, 1), (1, 1), (2, 1)] (.agg #[.int .i64 0, .bool false, .int .i64 0]) := ⟨Tryz.t72, Tryz.type72, rfl, .inl ⟨_, Tryz.underlying72, rfl⟩⟩
instance n73 : TyN Tryz.prog 73 2 32 (.agg #[.int .i64 0, .slice none 0 0]) := ⟨Tryz.t73, Tryz.type73, rfl, rfl, rfl⟩
instance g73 : TyG Tryz.prog 73 true 2 := ⟨_, Tryz.t73, Tryz.underlying73, Tryz.type73, rfl, rfl⟩
instance f73_0 : TyF Tryz.prog 73 0 0 := ⟨_, _, Tryz.t3, Tryz.underlying73, rfl, rfl, Tryz.type3, by decide⟩
instance f73_1 : TyF Tryz.prog 73 1 1 := ⟨_, _, Tryz.t31, Tryz.underlying73, rfl, rfl, Tryz.type31, by decide⟩
instance b73 : TyB Tryz.prog 73 [(0, 1), (1, 1)] (.agg #[.int .i64 0, .slice none 0 0]) := ⟨Tryz.t73, Tryz.type73, rfl, .inl ⟨_, Tryz.underlying73, rfl⟩⟩
instance n74 : TyN Tryz.prog 74 2 32 (.agg #[.int .i64 0, .slice none 0 0]) := ⟨Tryz.t74, Tryz.type74, rfl, rfl, rfl⟩
instance g74 : TyG Tryz.prog 74 true 2 := ⟨_, Tryz.t74, Tryz.underlying74, Tryz.type74, rfl, rfl⟩
instance f74_0 : TyF Tryz.prog 74 0 0 := ⟨_, _, Tryz.t3, Tryz.underlying74, rfl, rfl, Tryz.type3, by decide⟩
instance f74_1 : TyF Tryz.prog 74 1 1 := ⟨_, _, Tryz.t31, Tryz.underlying74, rfl, rfl, Tryz.type31, by decide⟩
instance b74 : TyB Tryz.prog 74 [(0, 1), (1, 1)] (.agg #[.int .i64 0, .slice none 0 0]) := ⟨Tryz.t74, Tryz.type74, rfl, .inl ⟨_, Tryz.underlying74, rfl⟩⟩
instance n76 : TyN Tryz.prog 76 1 8 (.nilFunc) := ⟨Tryz.t76, Tryz.type76, rfl, rfl, rfl⟩
instance g76 : TyG Tryz.prog 76 false 1 := ⟨_, Tryz.t76, Tryz.underlying76, Tryz.type76, rfl, rfl⟩
instance n77 : TyN Tryz.prog 77 9 120 (.agg #[.int .i64 0, .int .i64 0, .int .i64 0, .int .i64 0, .slice none 0 0, .slice none 0 0, .slice none 0 0, .int .i64 0, .int .i64 0]) := ⟨Tryz.t77, Tryz.type77, rfl, rfl, rfl⟩
instance g77 : TyG Tryz.prog 77 true 9 := ⟨_, Tryz.t77, Tryz.underlying77, Tryz.type77, rfl, rfl⟩
instance f77_0 : TyF Tryz.prog 77 0 0 := ⟨_, _, Tryz.t3, Tryz.underlying77, rfl, rfl, Tryz.type3, by decide⟩
instance f77_1 : TyF Tryz.prog 77 1 1 := ⟨_, _, Tryz.t41, Tryz.underlying77, rfl, rfl, Tryz.type41, by decide⟩
instance f77_2 : TyF Tryz.prog 77 2 7 := ⟨_, _, Tryz.t3, Tryz.underlying77, rfl, rfl, Tryz.type3, by decide⟩
instance f77_3 : TyF Tryz.prog 77 3 8 := ⟨_, _, Tryz.t3, Tryz.underlying77, rfl, rfl, Tryz.type3, by decide⟩
instance b77 : TyB Tryz.prog 77 [(0, 1), (1, 6), (7, 1), (8, 1)] (.agg #[.int .i64 0, .int .i64 0, .int .i64 0, .int .i64 0, .slice none 0 0, .slice none 0 0, .slice none 0 0, .int .i64 0, .int .i64 0]) := ⟨Tryz.t77, Tryz.type77, rfl, .inl ⟨_, Tryz.underlying77, rfl⟩⟩
instance n78 : TyN Tryz.prog 78 9 120 (.agg #[.int .i64 0, .int .i64 0, .int .i64 0, .int .i64 0, .slice none 0 0, .slice none 0 0, .slice none 0 0, .int .i64 0, .int .i64 0]) := ⟨Tryz.t78, Tryz.type78, rfl, rfl, rfl⟩
instance g78 : TyG Tryz.prog 78 true 9 := ⟨_, Tryz.t78, Tryz.underlying78, Tryz.type78, rfl, rfl⟩
instance f78_0 : TyF Tryz.prog 78 0 0 := ⟨_, _, Tryz.t3, Tryz.underlying78, rfl, rfl, Tryz.type3, by decide⟩
instance f78_1 : TyF Tryz.prog 78 1 1 := ⟨_, _, Tryz.t41, Tryz.underlying78, rfl, rfl, Tryz.type41, by decide⟩
instance f78_2 : TyF Tryz.prog 78 2 7 := ⟨_, _, Tryz.t3, Tryz.underlying78, rfl, rfl, Tryz.type3, by decide⟩
instance f78_3 : TyF Tryz.prog 78 3 8 := ⟨_, _, Tryz.t3, Tryz.underlying78, rfl, rfl, Tryz.type3, by decide⟩
instance b78 : TyB Tryz.prog 78 [(0, 1), (1, 6), (7, 1), (8, 1)] (.agg #[.int .i64 0, .int .i64 0, .int .i64 0, .int .i64 0, .slice none 0 0, .slice none 0 0, .slice none 0 0, .int .i64 0, .int .i64 0]) := ⟨Tryz.t78, Tryz.type78, rfl, .inl ⟨_, Tryz.underlying78, rfl⟩⟩
instance n80 : TyN Tryz.prog 80 1 8 (.nilFunc) := ⟨Tryz.t80, Tryz.type80, rfl, rfl, rfl⟩
instance g80 : TyG Tryz.prog 80 false 1 := ⟨_, Tryz.t80, Tryz.underlying80, Tryz.type80, rfl, rfl⟩
instance n82 : TyN Tryz.prog 82 1 8 (.nilFunc) := ⟨Tryz.t82, Tryz.type82, rfl, rfl, rfl⟩
instance g82 : TyG Tryz.prog 82 false 1 := ⟨_, Tryz.t82, Tryz.underlying82, Tryz.type82, rfl, rfl⟩
instance n83 : TyN Tryz.prog 83 1 8 (.nilFunc) := ⟨Tryz.t83, Tryz.type83, rfl, rfl, rfl⟩
instance g83 : TyG Tryz.prog 83 false 1 := ⟨_, Tryz.t83, Tryz.underlying83, Tryz.type83, rfl, rfl⟩
instance d84 : TyD Tryz.prog 84 (.slice 140) := ⟨Tryz.underlying84⟩
instance n84 : TyN Tryz.prog 84 1 24 (.slice none 0 0) := ⟨Tryz.t84, Tryz.type84, rfl, rfl, rfl⟩
instance g84 : TyG Tryz.prog 84 false 1 := ⟨_, Tryz.t84, Tryz.underlying84, Tryz.type84, rfl, rfl⟩
instance s84 : TyS Tryz.prog 84 140 9 136 (.agg #[.slice none 0 0, .int .i64 0, .int .i64 0, .int .i64 0, .slice none 0 0, .slice none 0 0, .slice none 0 0, .int .i64 0, .int .i64 0]) := ⟨Tryz.underlying84, Tryz.t140, Tryz.type140, rfl, rfl, rfl⟩
instance d85 : TyD Tryz.prog 85 (.array 3 3) := ⟨Tryz.underlying85⟩
instance n85 : TyN Tryz.prog 85 3 24 (.agg #[.int .i64 0, .int .i64 0, .int .i64 0]) := ⟨Tryz.t85, Tryz.type85, rfl, rfl, rfl⟩
instance g85 : TyG Tryz.prog 85 true 3 := ⟨_, Tryz.t85, Tryz.underlying85, Tryz.type85, rfl, rfl⟩
instance l85 : TyL Tryz.prog 85 3 1 := ⟨3, Tryz.t3, Tryz.underlying85, Tryz.type3, rfl⟩
instance b85 : TyB Tryz.prog 85 [(0, 1), (1, 1), (2, 1)] (.agg #[.int .i64 0, .int .i64 0, .int .i64 0]) := ⟨Tryz.t85, Tryz.type85, rfl, .inr ⟨3, 3, Tryz.t3, Tryz.underlying85, Tryz.type3, rfl⟩⟩
instance d86 : TyD Tryz.prog 86 (.array 3 22) := ⟨Tryz.underlying86⟩
instance n86 : TyN Tryz.prog 86 3 72 (.agg #[.slice none 0 0, .slice none 0 0, .slice none 0 0]) := ⟨Tryz.t86, Tryz.type86, rfl, rfl, rfl⟩
instance g86 : TyG Tryz.prog 86 true 3 := ⟨_, Tryz.t86, Tryz.underlying86, Tryz.type86, rfl, rfl⟩
instance l86 : TyL Tryz.prog 86 3 1 := ⟨22, Tryz.t22, Tryz.underlying86, Tryz.type22, rfl⟩
instance b86 : TyB Tryz.prog 86 [(0, 1), (1, 1), (2, 1)] (.agg #[.slice none 0 0, .slice none 0 0, .slice none 0 0]) := ⟨Tryz.t86, Tryz.type86, rfl, .inr ⟨3, 22, Tryz.t22, Tryz.underlying86, Tryz.type22, rfl⟩⟩
instance n87 : TyN Tryz.prog 87 1 8 (.nilFunc) := ⟨Tryz.t87, Tryz.type87, rfl, rfl, rfl⟩
instance g87 : TyG Tryz.prog 87 false 1 := ⟨_, Tryz.t87, Tryz.underlying87, Tryz.type87, rfl, rfl⟩
instance n88 : TyN Tryz.prog 88 1 8 (.nilFunc) := ⟨Tryz.t88, Tryz.type88, rfl, rfl, rfl⟩
instance g88 : TyG Tryz.prog 88 false 1 := ⟨_, Tryz.t88, Tryz.underlying88, Tryz.type88, rfl, rfl⟩
instance n89 : TyN Tryz.prog 89 1 8 (.nilFunc) := ⟨Tryz.t89, Tryz.type89, rfl, rfl, rfl⟩
instance g89 : TyG Tryz.prog 89 false 1 := ⟨_, Tryz.t89, Tryz.underlying89, Tryz.type89, rfl, rfl⟩
instance n91 : TyN Tryz.prog 91 1 8 (.nilFunc) := ⟨Tryz.t91, Tryz.type91, rfl, rfl, rfl⟩
instance g91 : TyG Tryz.prog 91 false 1 := ⟨_, Tryz.t91, Tryz.underlying91, Tryz.type91, rfl, rfl⟩
instance n92 : TyN Tryz.prog 92 1 8 (.nilFunc) := ⟨Tryz.t92, Tryz.type92, rfl, rfl, rfl⟩
instance g92 : TyG Tryz.prog 92 false 1 := ⟨_, Tryz.t92, Tryz.underlying92, Tryz.type92, rfl, rfl⟩
instance n94 : TyN Tryz.prog 94 1 8 (.nilFunc) := ⟨Tryz.t94, Tryz.type94, rfl, rfl, rfl⟩
instance g94 : TyG Tryz.prog 94 false 1 := ⟨_, Tryz.t94, Tryz.underlying94, Tryz.type94, rfl, rfl⟩
instance n96 : TyN Tryz.prog 96 1 8 (.nilFunc) := ⟨Tryz.t96, Tryz.type96, rfl, rfl, rfl⟩
instance g96 : TyG Tryz.prog 96 false 1 := ⟨_, Tryz.t96, Tryz.underlying96, Tryz.type96, rfl, rfl⟩
instance d97 : TyD Tryz.prog 97 (.int .u64) := ⟨Tryz.underlying97⟩
instance n97 : TyN Tryz.prog 97 1 8 (.int .u64 0) := ⟨Tryz.t97, Tryz.type97, rfl, rfl, rfl⟩
instance g97 : TyG Tryz.prog 97 false 1 := ⟨_, Tryz.t97, Tryz.underlying97, Tryz.type97, rfl, rfl⟩
instance d98 : TyD Tryz.prog 98 (.slice 100) := ⟨Tryz.underlying98⟩
instance n98 : TyN Tryz.prog 98 1 24 (.slice none 0 0) := ⟨Tryz.t98, Tryz.type98, rfl, rfl, rfl⟩
instance g98 : TyG Tryz.prog 98 false 1 := ⟨_, Tryz.t98, Tryz.underlying98, Tryz.type98, rfl, rfl⟩
instance s98 : TyS Tryz.prog 98 100 4 64 (.agg #[.int .i64 0, .int .u64 0, .slice none 0 0, .slice none 0 0]) := ⟨Tryz.underlying98, Tryz.t100, Tryz.type100, rfl, rfl, rfl⟩
instance n99 : TyN Tryz.prog 99 4 64 (.agg #[.int .i64 0, .int .u64 0, .slice none 0 0, .slice none 0 0]) := ⟨Tryz.t99, Tryz.type99, rfl, rfl, rfl⟩
instance g99 : TyG Tryz.prog 99 true 4 := ⟨_, Tryz.t99, Tryz.underlying99, Tryz.type99, rfl, rfl⟩
instance f99_0 : TyF Tryz.prog 99 0 0 := ⟨_, _, Tryz.t3, Tryz.underlying99, rfl, rfl, Tryz.type3, by decide⟩
instance f99_1 : TyF Tryz.prog 99 1 1 := ⟨_, _, Tryz.t97, Tryz.underlying99, rfl, rfl, Tryz.type97, by decide⟩
instance f99_2 : TyF Tryz.prog 99 2 2 := ⟨_, _, Tryz.t31, Tryz.underlying99, rfl, rfl, Tryz.type31, by decide⟩
instance f99_3 : TyF Tryz.prog 99 3 3 := ⟨_, _, Tryz.t98, Tryz.underlying99, rfl, rfl, Tryz.type98, by decide⟩
instance b99 : TyB Tryz.prog 99 [(0, 1), (1, 1), (2, 1), (3, 1)] (.agg #[.int .i64 0, .int .u64 0, .slice none 0 0, .slice none 0 0]) := ⟨Tryz.t99, Tryz.type99, rfl, .inl ⟨_, Tryz.underlying99, rfl⟩⟩
instance n100 : TyN Tryz.prog 100 4 64 (.agg #[.int .i64 0, .int .u64 0, .slice none 0 0, .slice none 0 0]) := ⟨Tryz.t100, Tryz.type100, rfl, rfl, rfl⟩
instance g100 : TyG Tryz.prog 100 true 4 := ⟨_, Tryz.t100, Tryz.underlying100, Tryz.type100, rfl, rfl⟩
instance f100_0 : TyF Tryz.prog 100 0 0 := ⟨_, _, Tryz.t3, Tryz.underlying100, rfl, rfl, Tryz.type3, by decide⟩
instance f100_1 : TyF Tryz.prog 100 1 1 := ⟨_, _, Tryz.t97, Tryz.underlying100, rfl, rfl, Tryz.type97, by decide⟩
instance f100_2 : TyF Tryz.prog 100 2 2 := ⟨_, _, Tryz.t31, Tryz.underlying100, rfl, rfl, Tryz.type31, by decide⟩
instance f100_3 : TyF Tryz.prog 100 3 3 := ⟨_, _, Tryz.t98, Tryz.underlying100, rfl, rfl, Tryz.type98, by decide⟩
instance b100 : TyB Tryz.prog 100 [(0, 1), (1, 1), (2, 1), (3, 1)] (.agg #[.int .i64 0, .int .u64 0, .slice none 0 0, .slice none 0 0]) := ⟨Tryz.t100, Tryz.type100, rfl, .inl ⟨_, Tryz.underlying100, rfl⟩⟩
instance n101 : TyN Tryz.prog 101 1 8 (.nilFunc) := ⟨Tryz.t101, Tryz.type101, rfl, rfl, rfl⟩
instance g101 : TyG Tryz.prog 101 false 1 := ⟨_, Tryz.t101, Tryz.underlying101, Tryz.type101, rfl, rfl⟩
instance n103 : TyN Tryz.prog 103 1 8 (.nilFunc) := ⟨Tryz.t103, Tryz.type103, rfl, rfl, rfl⟩
instance g103 : TyG Tryz.prog 103 false 1 := ⟨_, Tryz.t103, Tryz.underlying103, Tryz.type103, rfl, rfl⟩
instance n104 : TyN Tryz.prog 104 2 32 (.agg #[.slice none 0 0, .int .i64 0]) := ⟨Tryz.t104, Tryz.type104, rfl, rfl, rfl⟩
instance g104 : TyG Tryz.prog 104 true 2 := ⟨_, Tryz.t104, Tryz.underlying104, Tryz.type104, rfl, rfl⟩
instance f104_0 : TyF Tryz.prog 104 0 0 := ⟨_, _, Tryz.t22, Tryz.underlying104, rfl, rfl, Tryz.type22, by decide⟩
instance f104_1 : TyF Tryz.prog 104 1 1 := ⟨_, _, Tryz.t3, Tryz.underlying104, rfl, rfl, Tryz.type3, by decide⟩
instance b104 : TyB Tryz.prog 104 [(0, 1), (1, 1)] (.agg #[.slice none 0 0, .int .i64 0]) := ⟨Tryz.t104, Tryz.type104, rfl, .inl ⟨_, Tryz.underlying104, rfl⟩⟩
instance n105 : TyN Tryz.prog 105 2 32 (.agg #[.slice none 0 0, .int .i64 0]) := ⟨Tryz.t105, Tryz.type105, rfl, rfl, rfl⟩
instance g105 : TyG Tryz.prog 105 true 2 := ⟨_, Tryz.t105, Tryz.underlying105, Tryz.type105, rfl, rfl⟩
instance f105_0 : TyF Tryz.prog 105 0 0 := ⟨_, _, Tryz.t22, Tryz.underlying105, rfl, rfl, Tryz.type22, by decide⟩
instance f105_1 : TyF Tryz.prog 105 1 1 := ⟨_, _, Tryz.t3, Tryz.underlying105, rfl, rfl, Tryz.type3, by decide⟩
instance b105 : TyB Tryz.prog 105 [(0, 1), (1, 1)] (.agg #[.slice none 0 0, .int .i64 0]) := ⟨Tryz.t105, Tryz.type105, rfl, .inl ⟨_, Tryz.underlying105, rfl⟩⟩
instance n106 : TyN Tryz.prog 106 1 8 (.nilFunc) := ⟨Tryz.t106, Tryz.type106, rfl, rfl, rfl⟩
instance g106 : TyG Tryz.prog 106 false 1 := ⟨_, Tryz.t106, Tryz.underlying106, Tryz.type106, rfl, rfl⟩
instance n107 : TyN Tryz.prog 107 1 8 (.nilFunc) := ⟨Tryz.t107, Tryz.type107, rfl, rfl, rfl⟩
instance g107 : TyG Tryz.prog 107 false 1 := ⟨_, Tryz.t107, Tryz.underlying107, Tryz.type107, rfl, rfl⟩
instance n108 : TyN Tryz.prog 108 1 8 (.nilFunc) := ⟨Tryz.t108, Tryz.type108, rfl, rfl, rfl⟩
instance g108 : TyG Tryz.prog 108 false 1 := ⟨_, Tryz.t108, Tryz.underlying108, Tryz.type108, rfl, rfl⟩
instance n109 : TyN Tryz.prog 109 1 8 (.nilFunc) := ⟨Tryz.t109, Tryz.type109, rfl, rfl, rfl⟩
instance g109 : TyG Tryz.prog 109 false 1 := ⟨_, Tryz.t109, Tryz.underlying109, Tryz.type109, rfl, rfl⟩
instance n110 : TyN Tryz.prog 110 1 8 (.nilFunc) := ⟨Tryz.t110, Tryz.type110, rfl, rfl, rfl⟩
instance g110 : TyG Tryz.prog 110 false 1 := ⟨_, Tryz.t110, Tryz.underlying110, Tryz.type110, rfl, rfl⟩
instance n111 : TyN Tryz.prog 111 1 8 (.nilFunc) := ⟨Tryz.t111, Tryz.type111, rfl, rfl, rfl⟩
instance g111 : TyG Tryz.prog 111 false 1 := ⟨_, Tryz.t111, Tryz.underlying111, Tryz.type111, rfl, rfl⟩
instance d112 : TyD Tryz.prog 112 (.slice 31) := ⟨Tryz.underlying112⟩
instance n112 : TyN Tryz.prog 112 1 24 (.slice none 0 0) := ⟨Tryz.t112, Tryz.type112, rfl, rfl, rfl⟩
instance g112 : TyG Tryz.prog 112 false 1 := ⟨_, Tryz.t112, Tryz.underlying112, Tryz.type112, rfl, rfl⟩
instance s112 : TyS Tryz.prog 112 31 1 24 (.slice none 0 0) := ⟨Tryz.underlying112, Tryz.t31, Tryz.type31, rfl, rfl, rfl⟩
instance n113 : TyN Tryz.prog 113 1 8 (.nilFunc) := ⟨Tryz.t113, Tryz.type113, rfl, rfl, rfl⟩
instance g113 : TyG Tryz.prog 113 false 1 := ⟨_, Tryz.t113, Tryz.underlying113, Tryz.type113, rfl, rfl⟩
instance n114 : TyN Tryz.prog 114 1 8 (.nilFunc) := ⟨Tryz.t114, Tryz.type114, rfl, rfl, rfl⟩
instance g114 : TyG Tryz.prog 114 false 1 := ⟨_, Tryz.t114, Tryz.underlying114, Tryz.type114, rfl, rfl⟩
instance d115 : TyD Tryz.prog 115 (.int .u64) := ⟨Tryz.underlying115⟩
instance n115 : TyN Tryz.prog 115 1 8 (.int .u64 0) := ⟨Tryz.t115, Tryz.type115, rfl, rfl, rfl⟩
instance g115 : TyG Tryz.prog 115 false 1 := ⟨_, Tryz.t115, Tryz.underlying115, Tryz.type115, rfl, rfl⟩
instance n116 : TyN Tryz.prog 116 1 8 (.nilFunc) := ⟨Tryz.t116, Tryz.type116, rfl, rfl, rfl⟩
instance g116 : TyG Tryz.prog 116 false 1 := ⟨_, Tryz.t116, Tryz.underlying116, Tryz.type116, rfl, rfl⟩
instance n117 : TyN Tryz.prog 117 1 8 (.nilFunc) := ⟨Tryz.t117, Tryz.type117, rfl, rfl, rfl⟩
instance g117 : TyG Tryz.prog 117 false 1 := ⟨_, Tryz.t117, Tryz.underlying117, Tryz.type117, rfl, rfl⟩
instance n118 : TyN Tryz.prog 118 1 8 (.nilFunc) := ⟨Tryz.t118, Tryz.type118, rfl, rfl, rfl⟩
instance g118 : TyG Tryz.prog 118 false 1 := ⟨_, Tryz.t118, Tryz.underlying118, Tryz.type118, rfl, rfl⟩
instance n119 : TyN Tryz.prog 119 1 8 (.nilFunc) := ⟨Tryz.t119, Tryz.type119, rfl, rfl, rfl⟩
instance g119 : TyG Tryz.prog 119 false 1 := ⟨_, Tryz.t119, Tryz.underlying119, Tryz.type119, rfl, rfl⟩
instance n120 : TyN Tryz.prog 120 1 8 (.nilFunc) := ⟨Tryz.t120, Tryz.type120, rfl, rfl, rfl⟩
instance g120 : TyG Tryz.prog 120 false 1 := ⟨_, Tryz.t120, Tryz.underlying120, Tryz.type120, rfl, rfl⟩
instance n121 : TyN Tryz.prog 121 3 24 (.agg #[.int .i64 0, .int .i64 0, .int .i64 0]) := ⟨Tryz.t121, Tryz.type121, rfl, rfl, rfl⟩
instance g121 : TyG Tryz.prog 121 true 3 := ⟨_, Tryz.t121, Tryz.underlying121, Tryz.type121, rfl, rfl⟩
instance f121_0 : TyF Tryz.prog 121 0 0 := ⟨_, _, Tryz.t3, Tryz.underlying121, rfl, rfl, Tryz.type3, by decide⟩
instance f121_1 : TyF Tryz.prog 121 1 1 := ⟨_, _, Tryz.t3, Tryz.underlying121, rfl, rfl, Tryz.type3, by decide⟩
instance f121_2 : TyF Tryz.prog 121 2 2 := ⟨_, _, Tryz.t3, Tryz.underlying121, rfl, rfl, Tryz.type3, by decide⟩
instance b121 : TyB Tryz.prog 121 [(0, 1), (1, 1), (2, 1)] (.agg #[.int .i64 0, .int .i64 0, .int .i64 0]) := ⟨Tryz.t121, Tryz.type121, rfl, .inl ⟨_, Tryz.underlying121, rfl⟩⟩
instance n122 : TyN Tryz.prog 122 3 24 (.agg #[.int .i64 0, .int .i64 0, .int .i64 0]) := ⟨Tryz.t122, Tryz.type122, rfl, rfl, rfl⟩
instance g122 : TyG Tryz.prog 122 true 3 := ⟨_, Tryz.t122, Tryz.underlying122, Tryz.type122, rfl, rfl⟩
instance f122_0 : TyF Tryz.prog 122 0 0 := ⟨_, _, Tryz.t3, Tryz.underlying122, rfl, rfl, Tryz.type3, by decide⟩
instance f122_1 : TyF Tryz.prog 122 1 1 := ⟨_, _, Tryz.t3, Tryz.underlying122, rfl, rfl, Tryz.type3, by decide⟩
instance f122_2 : TyF Tryz.prog 122 2 2 := ⟨_, _, Tryz.t3, Tryz.underlying122, rfl, rfl, Tryz.type3, by decide⟩
instance b122 : TyB Tryz.prog 122 [(0, 1), (1, 1), (2, 1)] (.agg #[.int .i64 0, .int .i64 0, .int .i64 0]) := ⟨Tryz.t122, Tryz.type122, rfl, .inl ⟨_, Tryz.underlying122, rfl⟩⟩
instance n123 : TyN Tryz.prog 123 1 8 (.nilFunc) := ⟨Tryz.t123, Tryz.type123, rfl, rfl, rfl⟩
instance g123 : TyG Tryz.prog 123 false 1 := ⟨_, Tryz.t123, Tryz.underlying123, Tryz.type123, rfl, rfl⟩
instance n124 : TyN Tryz.prog 124 1 8 (.nilFunc) := ⟨Tryz.t124, Tryz.type124, rfl, rfl, rfl⟩
instance g124 : TyG Tryz.prog 124 false 1 := ⟨_, Tryz.t124, Tryz.underlying124, Tryz.type124, rfl, rfl⟩
instance n125 : TyN Tryz.prog 125 10 128 (.agg #[.int .i64 0, .int .i64 0, .int .i64 0, .bool false, .int .i64 0, .int .i64 0, .int .i64 0, .slice none 0 0, .slice none 0 0, .slice none 0 0]) := ⟨Tryz.t125, Tryz.type125, rfl, rfl, rfl⟩
instance g125 : TyG Tryz.prog 125 true 10 := ⟨_, Tryz.t125, Tryz.underlying125, Tryz.type125, rfl, rfl⟩
instance f125_0 : TyF Tryz.prog 125 0 0 := ⟨_, _, Tryz.t3, Tryz.underlying125, rfl, rfl, Tryz.type3, by decide⟩
instance f125_1 : TyF Tryz.prog 125 1 1 := ⟨_, _, Tryz.t3, Tryz.underlying125, rfl, rfl, Tryz.type3, by decide⟩
instance f125_2 : TyF Tryz.prog 125 2 2 := ⟨_, _, Tryz.t3, Tryz.underlying125, rfl, rfl, Tryz.type3, by decide⟩
instance f125_3 : TyF Tryz.prog 125 3 3 := ⟨_, _, Tryz.t4, Tryz.underlying125, rfl, rfl, Tryz.type4, by decide⟩
instance f125_4 : TyF Tryz.prog 125 4 4 := ⟨_, _, Tryz.t41, Tryz.underlying125, rfl, rfl, Tryz.type41, by decide⟩
instance b125 : TyB Tryz.prog 125 [(0, 1), (1, 1), (2, 1), (3, 1), (4, 6)] (.agg #[.int .i64 0, .int .i64 0, .int .i64 0, .bool false, .int .i64 0, .int .i64 0, .int .i64 0, .slice none 0 0, .slice none 0 0, .slice none 0 0]) := ⟨Tryz.t125, Tryz.type125, rfl, .inl ⟨_, Tryz.underlying125, rfl⟩⟩
instance n126 : TyN Tryz.prog 126 10 128 (.agg #[.int .i64 0, .int .i64 0, .int .i64 0, .bool false, .int .i64 0, .int .i64 0, .int .i64 0, .slice none 0 0, .slice none 0 0, .slice none 0 0]) := ⟨Tryz.t126, Tryz.type126, rfl, rfl, rfl⟩
instance g126 : TyG Tryz.prog 126 true 10 := ⟨_, Tryz.t126, Tryz.underlying126, Tryz.type126, rfl, rfl⟩
instance f126_0 : TyF Tryz.prog 126 0 0 := ⟨_, _, Tryz.t3, Tryz.underlying126, rfl, rfl, Tryz.type3, by decide⟩
instance f126_1 : TyF Tryz.prog 126 1 1 := ⟨_, _, Tryz.t3, Tryz.underlying126, rfl, rfl, Tryz.type3, by decide⟩
instance f126_2 : TyF Tryz.prog 126 2 2 := ⟨_, _, Tryz.t3, Tryz.underlying126, rfl, rfl, Tryz.type3, by decide⟩
instance f126_3 : TyF Tryz.prog 126 3 3 := ⟨_, _, Tryz.t4, Tryz.underlying126, rfl, rfl, Tryz.type4, by decide⟩
instance f126_4 : TyF Tryz.prog 126 4 4 := ⟨_, _, Tryz.t41, Tryz.underlying126, rfl, rfl, Tryz.type41, by decide⟩
instance b126 : TyB Tryz.prog 126 [(0, 1), (1, 1), (2, 1), (3, 1), (4, 6)] (.agg #[.int .i64 0, .int .i64 0, .int .i64 0, .bool false, .int .i64 0, .int .i64 0, .int .i64 0, .slice none 0 0, .slice none 0 0, .slice none 0 0]) := ⟨Tryz.t126, Tryz.type126, rfl, .inl ⟨_, Tryz.underlying126, rfl⟩⟩
instance d127 : TyD Tryz.prog 127 (.pointer 126) := ⟨Tryz.underlying127⟩
instance n127 : TyN Tryz.prog 127 1 8 (.pointer none) := ⟨Tryz.t127, Tryz.type127, rfl, rfl, rfl⟩
instance g127 : TyG Tryz.prog 127 false 1 := ⟨_, Tryz.t127, Tryz.underlying127, Tryz.type127, rfl, rfl⟩
instance n128 : TyN Tryz.prog 128 1 8 (.nilFunc) := ⟨Tryz.t128, Tryz.type128, rfl, rfl, rfl⟩
instance g128 : TyG Tryz.prog 128 false 1 := ⟨_, Tryz.t128, Tryz.underlying128, Tryz.type128, rfl, rfl⟩
instance n129 : TyN Tryz.prog 129 1 8 (.nilFunc) := ⟨Tryz.t129, Tryz.type129, rfl, rfl, rfl⟩
instance g129 : TyG Tryz.prog 129 false 1 := ⟨_, Tryz.t129, Tryz.underlying129, Tryz.type129, rfl, rfl⟩
instance n130 : TyN Tryz.prog 130 1 8 (.nilFunc) := ⟨Tryz.t130, Tryz.type130, rfl, rfl, rfl⟩
instance g130 : TyG Tryz.prog 130 false 1 := ⟨_, Tryz.t130, Tryz.underlying130, Tryz.type130, rfl, rfl⟩
instance n131 : TyN Tryz.prog 131 1 8 (.nilFunc) := ⟨Tryz.t131, Tryz.type131, rfl, rfl, rfl⟩
instance g131 : TyG Tryz.prog 131 false 1 := ⟨_, Tryz.t131, Tryz.underlying131, Tryz.type131, rfl, rfl⟩
instance n132 : TyN Tryz.prog 132 4 64 (.agg #[.int .i64 0, .slice none 0 0, .slice none 0 0, .int .i64 0]) := ⟨Tryz.t132, Tryz.type132, rfl, rfl, rfl⟩
instance g132 : TyG Tryz.prog 132 true 4 := ⟨_, Tryz.t132, Tryz.underlying132, Tryz.type132, rfl, rfl⟩
instance f132_0 : TyF Tryz.prog 132 0 0 := ⟨_, _, Tryz.t3, Tryz.underlying132, rfl, rfl, Tryz.type3, by decide⟩
instance f132_1 : TyF Tryz.prog 132 1 1 := ⟨_, _, Tryz.t31, Tryz.underlying132, rfl, rfl, Tryz.type31, by decide⟩
instance f132_2 : TyF Tryz.prog 132 2 2 := ⟨_, _, Tryz.t31, Tryz.underlying132, rfl, rfl, Tryz.type31, by decide⟩
instance f132_3 : TyF Tryz.prog 132 3 3 := ⟨_, _, Tryz.t3, Tryz.underlying132, rfl, rfl, Tryz.type3, by decide⟩
instance b132 : TyB Tryz.prog 132 [(0, 1), (1, 1), (2, 1), (3, 1)] (.agg #[.int .i64 0, .slice none 0 0, .slice none 0 0, .int .i64 0]) := ⟨Tryz.t132, Tryz.type132, rfl, .inl ⟨_, Tryz.underlying132, rfl⟩⟩
instance n133 : TyN Tryz.prog 133 4 64 (.agg #[.int .i64 0, .slice none 0 0, .slice none 0 0, .int .i64 0]) := ⟨Tryz.t133, Tryz.type133, rfl, rfl, rfl⟩
instance g133 : TyG Tryz.prog 133 true 4 := ⟨_, Tryz.t133, Tryz.underlying133, Tryz.type133, rfl, rfl⟩
instance f133_0 : TyF Tryz.prog 133 0 0 := ⟨_, _, Tryz.t3, Tryz.underlying133, rfl, rfl, Tryz.type3, by decide⟩
instance f133_1 : TyF Tryz.prog 133 1 1 := ⟨_, _, Tryz.t31, Tryz.underlying133, rfl, rfl, Tryz.type31, by decide⟩
instance f133_2 : TyF Tryz.prog 133 2 2 := ⟨_, _, Tryz.t31, Tryz.underlying133, rfl, rfl, Tryz.type31, by decide⟩
instance f133_3 : TyF Tryz.prog 133 3 3 := ⟨_, _, Tryz.t3, Tryz.underlying133, rfl, rfl, Tryz.type3, by decide⟩
instance b133 : TyB Tryz.prog 133 [(0, 1), (1, 1), (2, 1), (3, 1)] (.agg #[.int .i64 0, .slice none 0 0, .slice none 0 0, .int .i64 0]) := ⟨Tryz.t133, Tryz.type133, rfl, .inl ⟨_, Tryz.underlying133, rfl⟩⟩
instance n135 : TyN Tryz.prog 135 1 8 (.nilFunc) := ⟨Tryz.t135, Tryz.type135, rfl, rfl, rfl⟩
instance g135 : TyG Tryz.prog 135 false 1 := ⟨_, Tryz.t135, Tryz.underlying135, Tryz.type135, rfl, rfl⟩
instance n136 : TyN Tryz.prog 136 1 8 (.nilFunc) := ⟨Tryz.t136, Tryz.type136, rfl, rfl, rfl⟩
instance g136 : TyG Tryz.prog 136 false 1 := ⟨_, Tryz.t136, Tryz.underlying136, Tryz.type136, rfl, rfl⟩
instance n137 : TyN Tryz.prog 137 1 8 (.nilFunc) := ⟨Tryz.t137, Tryz.type137, rfl, rfl, rfl⟩
instance g137 : TyG Tryz.prog 137 false 1 := ⟨_, Tryz.t137, Tryz.underlying137, Tryz.type137, rfl, rfl⟩
instance n138 : TyN Tryz.prog 138 1 8 (.nilFunc) := ⟨Tryz.t138, Tryz.type138, rfl, rfl, rfl⟩
instance g138 : TyG Tryz.prog 138 false 1 := ⟨_, Tryz.t138, Tryz.underlying138, Tryz.type138, rfl, rfl⟩
instance n139 : TyN Tryz.prog 139 9 136 (.agg #[.slice none 0 0, .int .i64 0, .int .i64 0, .int .i64 0, .slice none 0 0, .slice none 0 0, .slice none 0 0, .int .i64 0, .int .i64 0]) := ⟨Tryz.t139, Tryz.type139, rfl, rfl, rfl⟩
instance g139 : TyG Tryz.prog 139 true 9 := ⟨_, Tryz.t139, Tryz.underlying139, Tryz.type139, rfl, rfl⟩
instance f139_0 : TyF Tryz.prog 139 0 0 := ⟨_, _, Tryz.t31, Tryz.underlying139, rfl, rfl, Tryz.type31, by decide⟩
instance f139_1 : TyF Tryz.prog 139 1 1 := ⟨_, _, Tryz.t41, Tryz.underlying139, rfl, rfl, Tryz.type41, by decide⟩
instance f139_2 : TyF Tryz.prog 139 2 7 := ⟨_, _, Tryz.t3, Tryz.underlying139, rfl, rfl, Tryz.type3, by decide⟩
instance f139_3 : TyF Tryz.prog 139 3 8 := ⟨_, _, Tryz.t3, Tryz.underlying139, rfl, rfl, Tryz.type3, by decide⟩
instance b139 : TyB Tryz.prog 139 [(0, 1), (1, 6), (7, 1), (8, 1)] (.agg #[.slice none 0 0, .int .i64 0, .int .i64 0, .int .i64 0, .slice none 0 0, .slice none 0 0, .slice none 0 0, .int .i64 0, .int .i64 0]) := ⟨Tryz.t139, Tryz.type139, rfl, .inl ⟨_, Tryz.underlying139, rfl⟩⟩
instance n140 : TyN Tryz.prog 140 9 136 (.agg #[.slice none 0 0, .int .i64 0, .int .i64 0, .int .i64 0, .slice none 0 0, .slice none 0 0, .slice none 0 0, .int .i64 0, .int .i64 0]) := ⟨Tryz.t140, Tryz.type140, rfl, rfl, rfl⟩
instance g140 : TyG Tryz.prog 140 true 9 := ⟨_, Tryz.t140, Tryz.underlying140, Tryz.type140, rfl, rfl⟩
instance f140_0 : TyF Tryz.prog 140 0 0 := ⟨_, _, Tryz.t31, Tryz.underlying140, rfl, rfl, Tryz.type31, by decide⟩
instance f140_1 : TyF Tryz.prog 140 1 1 := ⟨_, _, Tryz.t41, Tryz.underlying140, rfl, rfl, Tryz.type41, by decide⟩
instance f140_2 : TyF Tryz.prog 140 2 7 := ⟨_, _, Tryz.t3, Tryz.underlying140, rfl, rfl, Tryz.type3, by decide⟩
instance f140_3 : TyF Tryz.prog 140 3 8 := ⟨_, _, Tryz.t3, Tryz.underlying140, rfl, rfl, Tryz.type3, by decide⟩
instance b140 : TyB Tryz.prog 140 [(0, 1), (1, 6), (7, 1), (8, 1)] (.agg #[.slice none 0 0, .int .i64 0, .int .i64 0, .int .i64 0, .slice none 0 0, .slice none 0 0, .slice none 0 0, .int .i64 0, .int .i64 0]) := ⟨Tryz.t140, Tryz.type140, rfl, .inl ⟨_, Tryz.underlying140, rfl⟩⟩
instance n141 : TyN Tryz.prog 141 1 8 (.nilFunc) := ⟨Tryz.t141, Tryz.type141, rfl, rfl, rfl⟩
instance g141 : TyG Tryz.prog 141 false 1 := ⟨_, Tryz.t141, Tryz.underlying141, Tryz.type141, rfl, rfl⟩
instance n142 : TyN Tryz.prog 142 1 8 (.nilFunc) := ⟨Tryz.t142, Tryz.type142, rfl, rfl, rfl⟩
instance g142 : TyG Tryz.prog 142 false 1 := ⟨_, Tryz.t142, Tryz.underlying142, Tryz.type142, rfl, rfl⟩
instance n143 : TyN Tryz.prog 143 1 8 (.nilFunc) := ⟨Tryz.t143, Tryz.type143, rfl, rfl, rfl⟩
instance g143 : TyG Tryz.prog 143 false 1 := ⟨_, Tryz.t143, Tryz.underlying143, Tryz.type143, rfl, rfl⟩
instance n144 : TyN Tryz.prog 144 1 8 (.nilFunc) := ⟨Tryz.t144, Tryz.type144, rfl, rfl, rfl⟩
instance g144 : TyG Tryz.prog 144 false 1 := ⟨_, Tryz.t144, Tryz.underlying144, Tryz.type144, rfl, rfl⟩
instance n145 : TyN Tryz.prog 145 1 8 (.nilFunc) := ⟨Tryz.t145, Tryz.type145, rfl, rfl, rfl⟩
instance g145 : TyG Tryz.prog 145 false 1 := ⟨_, Tryz.t145, Tryz.underlying145, Tryz.type145, rfl, rfl⟩
instance n146 : TyN Tryz.prog 146 1 8 (.nilFunc) := ⟨Tryz.t146, Tryz.type146, rfl, rfl, rfl⟩
instance g146 : TyG Tryz.prog 146 false 1 := ⟨_, Tryz.t146, Tryz.underlying146, Tryz.type146, rfl, rfl⟩
instance n147 : TyN Tryz.prog 147 1 8 (.nilFunc) := ⟨Tryz.t147, Tryz.type147, rfl, rfl, rfl⟩
instance g147 : TyG Tryz.prog 147 false 1 := ⟨_, Tryz.t147, Tryz.underlying147, Tryz.type147, rfl, rfl⟩
instance n148 : TyN Tryz.prog 148 1 8 (.nilFunc) := ⟨Tryz.t148, Tryz.type148, rfl, rfl, rfl⟩
instance g148 : TyG Tryz.prog 148 false 1 := ⟨_, Tryz.t148, Tryz.underlying148, Tryz.type148, rfl, rfl⟩
instance n149 : TyN Tryz.prog 149 1 8 (.nilFunc) := ⟨Tryz.t149, Tryz.type149, rfl, rfl, rfl⟩
instance g149 : TyG Tryz.prog 149 false 1 := ⟨_, Tryz.t149, Tryz.underlying149, Tryz.type149, rfl, rfl⟩
instance n150 : TyN Tryz.prog 150 3 32 (.agg #[.string ⟨#[]⟩, .int .i64 0, .bool false]) := ⟨Tryz.t150, Tryz.type150, rfl, rfl, rfl⟩
instance g150 : TyG Tryz.prog 150 true 3 := ⟨_, Tryz.t150, Tryz.underlying150, Tryz.type150, rfl, rfl⟩
instance f150_0 : TyF Tryz.prog 150 0 0 := ⟨_, _, Tryz.t9, Tryz.underlying150, rfl, rfl, Tryz.type9, by decide⟩
instance f150_1 : TyF Tryz.prog 150 1 1 := ⟨_, _, Tryz.t3, Tryz.underlying150, rfl, rfl, Tryz.type3, by decide⟩
instance f150_2 : TyF Tryz.prog 150 2 2 := ⟨_, _, Tryz.t4, Tryz.underlying150, rfl, rfl, Tryz.type4, by decide⟩
instance b150 : TyB Tryz.prog 150 [(0, 1), (1, 1), (2, 1)] (.agg #[.string ⟨#[]⟩, .int .i64 0, .bool false]) := ⟨Tryz.t150, Tryz.type150, rfl, .inl ⟨_, Tryz.underlying150, rfl⟩⟩
instance n151 : TyN Tryz.prog 151 3 32 (.agg #[.string ⟨#[]⟩, .int .i64 0, .bool false]) := ⟨Tryz.t151, Tryz.type151, rfl, rfl, rfl⟩
instance g151 : TyG Tryz.prog 151 true 3 := ⟨_, Tryz.t151, Tryz.underlying151, Tryz.type151, rfl, rfl⟩
instance f151_0 : TyF Tryz.prog 151 0 0 := ⟨_, _, Tryz.t9, Tryz.underlying151, rfl, rfl, Tryz.type9, by decide⟩
instance f151_1 : TyF Tryz.prog 151 1 1 := ⟨_, _, Tryz.t3, Tryz.underlying151, rfl, rfl, Tryz.type3, by decide⟩
instance f151_2 : TyF Tryz.prog 151 2 2 := ⟨_, _, Tryz.t4, Tryz.underlying151, rfl, rfl, Tryz.type4, by decide⟩
instance b151 : TyB Tryz.prog 151 [(0, 1), (1, 1), (2, 1)] (.agg #[.string ⟨#[]⟩, .int .i64 0, .bool false]) := ⟨Tryz.t151, Tryz.type151, rfl, .inl ⟨_, Tryz.underlying151, rfl⟩⟩
instance n152 : TyN Tryz.prog 152 1 8 (.nilFunc) := ⟨Tryz.t152, Tryz.type152, rfl, rfl, rfl⟩
instance g152 : TyG Tryz.prog 152 false 1 := ⟨_, Tryz.t152, Tryz.underlying152, Tryz.type152, rfl, rfl⟩
instance n153 : TyN Tryz.prog 153 1 8 (.nilFunc) := ⟨Tryz.t153, Tryz.type153, rfl, rfl, rfl⟩
instance g153 : TyG Tryz.prog 153 false 1 := ⟨_, Tryz.t153, Tryz.underlying153, Tryz.type153, rfl, rfl⟩
instance d154 : TyD Tryz.prog 154 (.slice 9) := ⟨Tryz.underlying154⟩
instance n154 : TyN Tryz.prog 154 1 24 (.slice none 0 0) := ⟨Tryz.t154, Tryz.type154, rfl, rfl, rfl⟩
instance g154 : TyG Tryz.prog 154 false 1 := ⟨_, Tryz.t154, Tryz.underlying154, Tryz.type154, rfl, rfl⟩
instance s154 : TyS Tryz.prog 154 9 1 16 (.string ⟨#[]⟩) := ⟨Tryz.underlying154, Tryz.t9, Tryz.type9, rfl, rfl, rfl⟩
instance n155 : TyN Tryz.prog 155 1 8 (.nilFunc) := ⟨Tryz.t155, Tryz.type155, rfl, rfl, rfl⟩
instance g155 : TyG Tryz.prog 155 false 1 := ⟨_, Tryz.t155, Tryz.underlying155, Tryz.type155, rfl, rfl⟩
instance n156 : TyN Tryz.prog 156 1 8 (.nilFunc) := ⟨Tryz.t156, Tryz.type156, rfl, rfl, rfl⟩
instance g156 : TyG Tryz.prog 156 false 1 := ⟨_, Tryz.t156, Tryz.underlying156, Tryz.type156, rfl, rfl⟩
instance n157 : TyN Tryz.prog 157 1 8 (.nilFunc) := ⟨Tryz.t157, Tryz.type157, rfl, rfl, rfl⟩
instance g157 : TyG Tryz.prog 157 false 1 := ⟨_, Tryz.t157, Tryz.underlying157, Tryz.type157, rfl, rfl⟩
instance n158 : TyN Tryz.prog 158 1 8 (.nilFunc) := ⟨Tryz.t158, Tryz.type158, rfl, rfl, rfl⟩
instance g158 : TyG Tryz.prog 158 false 1 := ⟨_, Tryz.t158, Tryz.underlying158, Tryz.type158, rfl, rfl⟩
instance n159 : TyN Tryz.prog 159 1 8 (.nilFunc) := ⟨Tryz.t159, Tryz.type159, rfl, rfl, rfl⟩
instance g159 : TyG Tryz.prog 159 false 1 := ⟨_, Tryz.t159, Tryz.underlying159, Tryz.type159, rfl, rfl⟩
instance n160 : TyN Tryz.prog 160 1 8 (.nilFunc) := ⟨Tryz.t160, Tryz.type160, rfl, rfl, rfl⟩
instance g160 : TyG Tryz.prog 160 false 1 := ⟨_, Tryz.t160, Tryz.underlying160, Tryz.type160, rfl, rfl⟩
instance n161 : TyN Tryz.prog 161 2 16 (.agg #[.int .i64 0, .int .i64 0]) := ⟨Tryz.t161, Tryz.type161, rfl, rfl, rfl⟩
instance g161 : TyG Tryz.prog 161 true 2 := ⟨_, Tryz.t161, Tryz.underlying161, Tryz.type161, rfl, rfl⟩
instance f161_0 : TyF Tryz.prog 161 0 0 := ⟨_, _, Tryz.t3, Tryz.underlying161, rfl, rfl, Tryz.type3, by decide⟩
instance f161_1 : TyF Tryz.prog 161 1 1 := ⟨_, _, Tryz.t3, Tryz.underlying161, rfl, rfl, Tryz.type3, by decide⟩
instance b161 : TyB Tryz.prog 161 [(0, 1), (1, 1)] (.agg #[.int .i64 0, .int .i64 0]) := ⟨Tryz.t161, Tryz.type161, rfl, .inl ⟨_, Tryz.underlying161, rfl⟩⟩
instance n162 : TyN Tryz.prog 162 2 16 (.agg #[.int .i64 0, .int .i64 0]) := ⟨Tryz.t162, Tryz.type162, rfl, rfl, rfl⟩
instance g162 : TyG Tryz.prog 162 true 2 := ⟨_, Tryz.t162, Tryz.underlying162, Tryz.type162, rfl, rfl⟩
instance f162_0 : TyF Tryz.prog 162 0 0 := ⟨_, _, Tryz.t3, Tryz.underlying162, rfl, rfl, Tryz.type3, by decide⟩
instance f162_1 : TyF Tryz.prog 162 1 1 := ⟨_, _, Tryz.t3, Tryz.underlying162, rfl, rfl, Tryz.type3, by decide⟩
instance b162 : TyB Tryz.prog 162 [(0, 1), (1, 1)] (.agg #[.int .i64 0, .int .i64 0]) := ⟨Tryz.t162, Tryz.type162, rfl, .inl ⟨_, Tryz.underlying162, rfl⟩⟩
instance n163 : TyN Tryz.prog 163 1 8 (.nilFunc) := ⟨Tryz.t163, Tryz.type163, rfl, rfl, rfl⟩
instance g163 : TyG Tryz.prog 163 false 1 := ⟨_, Tryz.t163, Tryz.underlying163, Tryz.type163, rfl, rfl⟩
instance n164 : TyN Tryz.prog 164 1 8 (.nilFunc) := ⟨Tryz.t164, Tryz.type164, rfl, rfl, rfl⟩
instance g164 : TyG Tryz.prog 164 false 1 := ⟨_, Tryz.t164, Tryz.underlying164, Tryz.type164, rfl, rfl⟩
instance n165 : TyN Tryz.prog 165 1 8 (.nilFunc) := ⟨Tryz.t165, Tryz.type165, rfl, rfl, rfl⟩
instance g165 : TyG Tryz.prog 165 false 1 := ⟨_, Tryz.t165, Tryz.underlying165, Tryz.type165, rfl, rfl⟩
instance d166 : TyD Tryz.prog 166 (.array 4 9) := ⟨Tryz.underlying166⟩
instance n166 : TyN Tryz.prog 166 4 64 (.agg #[.string ⟨#[]⟩, .string ⟨#[]⟩, .string ⟨#[]⟩, .string ⟨#[]⟩]) := ⟨Tryz.t166, Tryz.type166, rfl, rfl, rfl⟩
instance g166 : TyG Tryz.prog 166 true 4 := ⟨_, Tryz.t166, Tryz.underlying166, Tryz.type166, rfl, rfl⟩
instance l166 : TyL Tryz.prog 166 4 1 := ⟨9, Tryz.t9, Tryz.underlying166, Tryz.type9, rfl⟩
instance b166 : TyB Tryz.prog 166 [(0, 1), (1, 1), (2, 1), (3, 1)] (.agg #[.string ⟨#[]⟩, .string ⟨#[]⟩, .string ⟨#[]⟩, .string ⟨#[]⟩]) := ⟨Tryz.t166, Tryz.type166, rfl, .inr ⟨4, 9, Tryz.t9, Tryz.underlying166, Tryz.type9, rfl⟩⟩
instance d167 : TyD Tryz.prog 167 (.pointer 151) := ⟨Tryz.underlying167⟩
instance n167 : TyN Tryz.prog 167 1 8 (.pointer none) := ⟨Tryz.t167, Tryz.type167, rfl, rfl, rfl⟩
instance g167 : TyG Tryz.prog 167 false 1 := ⟨_, Tryz.t167, Tryz.underlying167, Tryz.type167, rfl, rfl⟩
instance n168 : TyN Tryz.prog 168 1 8 (.nilFunc) := ⟨Tryz.t168, Tryz.type168, rfl, rfl, rfl⟩
instance g168 : TyG Tryz.prog 168 false 1 := ⟨_, Tryz.t168, Tryz.underlying168, Tryz.type168, rfl, rfl⟩
instance n169 : TyN Tryz.prog 169 1 8 (.nilFunc) := ⟨Tryz.t169, Tryz.type169, rfl, rfl, rfl⟩
instance g169 : TyG Tryz.prog 169 false 1 := ⟨_, Tryz.t169, Tryz.underlying169, Tryz.type169, rfl, rfl⟩
instance n170 : TyN Tryz.prog 170 1 8 (.nilFunc) := ⟨Tryz.t170, Tryz.type170, rfl, rfl, rfl⟩
instance g170 : TyG Tryz.prog 170 false 1 := ⟨_, Tryz.t170, Tryz.underlying170, Tryz.type170, rfl, rfl⟩
instance n171 : TyN Tryz.prog 171 1 8 (.nilFunc) := ⟨Tryz.t171, Tryz.type171, rfl, rfl, rfl⟩
instance g171 : TyG Tryz.prog 171 false 1 := ⟨_, Tryz.t171, Tryz.underlying171, Tryz.type171, rfl, rfl⟩
instance n172 : TyN Tryz.prog 172 1 8 (.nilFunc) := ⟨Tryz.t172, Tryz.type172, rfl, rfl, rfl⟩
instance g172 : TyG Tryz.prog 172 false 1 := ⟨_, Tryz.t172, Tryz.underlying172, Tryz.type172, rfl, rfl⟩
instance n173 : TyN Tryz.prog 173 1 8 (.nilFunc) := ⟨Tryz.t173, Tryz.type173, rfl, rfl, rfl⟩
instance g173 : TyG Tryz.prog 173 false 1 := ⟨_, Tryz.t173, Tryz.underlying173, Tryz.type173, rfl, rfl⟩
instance n174 : TyN Tryz.prog 174 1 16 (.nilIface) := ⟨Tryz.t174, Tryz.type174, rfl, rfl, rfl⟩
instance g174 : TyG Tryz.prog 174 false 1 := ⟨_, Tryz.t174, Tryz.underlying174, Tryz.type174, rfl, rfl⟩
instance n175 : TyN Tryz.prog 175 1 16 (.nilIface) := ⟨Tryz.t175, Tryz.type175, rfl, rfl, rfl⟩
instance g175 : TyG Tryz.prog 175 false 1 := ⟨_, Tryz.t175, Tryz.underlying175, Tryz.type175, rfl, rfl⟩
instance n177 : TyN Tryz.prog 177 1 8 (.nilFunc) := ⟨Tryz.t177, Tryz.type177, rfl, rfl, rfl⟩
instance g177 : TyG Tryz.prog 177 false 1 := ⟨_, Tryz.t177, Tryz.underlying177, Tryz.type177, rfl, rfl⟩
instance d178 : TyD Tryz.prog 178 (.map 179 4) := ⟨Tryz.underlying178⟩
instance n178 : TyN Tryz.prog 178 1 8 (.map none) := ⟨Tryz.t178, Tryz.type178, rfl, rfl, rfl⟩
instance g178 : TyG Tryz.prog 178 false 1 := ⟨_, Tryz.t178, Tryz.underlying178, Tryz.type178, rfl, rfl⟩
instance d179 : TyD Tryz.prog 179 (.array 2 3) := ⟨Tryz.underlying179⟩
instance n179 : TyN Tryz.prog 179 2 16 (.agg #[.int .i64 0, .int .i64 0]) := ⟨Tryz.t179, Tryz.type179, rfl, rfl, rfl⟩
instance g179 : TyG Tryz.prog 179 true 2 := ⟨_, Tryz.t179, Tryz.underlying179, Tryz.type179, rfl, rfl⟩
instance l179 : TyL Tryz.prog 179 2 1 := ⟨3, Tryz.t3, Tryz.underlying179, Tryz.type3, rfl⟩
instance b179 : TyB Tryz.prog 179 [(0, 1), (1, 1)] (.agg #[.int .i64 0, .int .i64 0]) := ⟨Tryz.t179, Tryz.type179, rfl, .inr ⟨2, 3, Tryz.t3, Tryz.underlying179, Tryz.type3, rfl⟩⟩
instance n181 : TyN Tryz.prog 181 1 8 (.nilFunc) := ⟨Tryz.t181, Tryz.type181, rfl, rfl, rfl⟩
instance g181 : TyG Tryz.prog 181 false 1 := ⟨_, Tryz.t181, Tryz.underlying181, Tryz.type181, rfl, rfl⟩
instance n182 : TyN Tryz.prog 182 1 8 (.nilFunc) := ⟨Tryz.t182, Tryz.type182, rfl, rfl, rfl⟩
instance g182 : TyG Tryz.prog 182 false 1 := ⟨_, Tryz.t182, Tryz.underlying182, Tryz.type182, rfl, rfl⟩
instance n183 : TyN Tryz.prog 183 1 8 (.nilFunc) := ⟨Tryz.t183, Tryz.type183, rfl, rfl, rfl⟩
instance g183 : TyG Tryz.prog 183 false 1 := ⟨_, Tryz.t183, Tryz.underlying183, Tryz.type183, rfl, rfl⟩
instance n184 : TyN Tryz.prog 184 1 8 (.nilFunc) := ⟨Tryz.t184, Tryz.type184, rfl, rfl, rfl⟩
instance g184 : TyG Tryz.prog 184 false 1 := ⟨_, Tryz.t184, Tryz.underlying184, Tryz.type184, rfl, rfl⟩
instance n185 : TyN Tryz.prog 185 1 8 (.nilFunc) := ⟨Tryz.t185, Tryz.type185, rfl, rfl, rfl⟩
instance g185 : TyG Tryz.prog 185 false 1 := ⟨_, Tryz.t185, Tryz.underlying185, Tryz.type185, rfl, rfl⟩
instance n186 : TyN Tryz.prog 186 1 8 (.nilFunc) := ⟨Tryz.t186, Tryz.type186, rfl, rfl, rfl⟩
instance g186 : TyG Tryz.prog 186 false 1 := ⟨_, Tryz.t186, Tryz.underlying186, Tryz.type186, rfl, rfl⟩
instance n188 : TyN Tryz.prog 188 1 8 (.nilFunc) := ⟨Tryz.t188, Tryz.type188, rfl, rfl, rfl⟩
instance g188 : TyG Tryz.prog 188 false 1 := ⟨_, Tryz.t188, Tryz.underlying188, Tryz.type188, rfl, rfl⟩
instance d189 : TyD Tryz.prog 189 (.pointer 162) := ⟨Tryz.underlying189⟩
instance n189 : TyN Tryz.prog 189 1 8 (.pointer none) := ⟨Tryz.t189, Tryz.type189, rfl, rfl, rfl⟩
instance g189 : TyG Tryz.prog 189 false 1 := ⟨_, Tryz.t189, Tryz.underlying189, Tryz.type189, rfl, rfl⟩
instance n191 : TyN Tryz.prog 191 1 8 (.nilFunc) := ⟨Tryz.t191, Tryz.type191, rfl, rfl, rfl⟩
instance g191 : TyG Tryz.prog 191 false 1 := ⟨_, Tryz.t191, Tryz.underlying191, Tryz.type191, rfl, rfl⟩
instance n192 : TyN Tryz.prog 192 1 8 (.nilFunc) := ⟨Tryz.t192, Tryz.type192, rfl, rfl, rfl⟩
instance g192 : TyG Tryz.prog 192 false 1 := ⟨_, Tryz.t192, Tryz.underlying192, Tryz.type192, rfl, rfl⟩
instance n194 : TyN Tryz.prog 194 1 8 (.nilFunc) := ⟨Tryz.t194, Tryz.type194, rfl, rfl, rfl⟩
instance g194 : TyG Tryz.prog 194 false 1 := ⟨_, Tryz.t194, Tryz.underlying194, Tryz.type194, rfl, rfl⟩
instance n195 : TyN Tryz.prog 195 1 8 (.nilFunc) := ⟨Tryz.t195, Tryz.type195, rfl, rfl, rfl⟩
instance g195 : TyG Tryz.prog 195 false 1 := ⟨_, Tryz.t195, Tryz.underlying195, Tryz.type195, rfl, rfl⟩
instance n196 : TyN Tryz.prog 196 1 8 (.nilFunc) := ⟨Tryz.t196, Tryz.type196, rfl, rfl, rfl⟩
instance g196 : TyG Tryz.prog 196 false 1 := ⟨_, Tryz.t196, Tryz.underlying196, Tryz.type196, rfl, rfl⟩
instance n198 : TyN Tryz.prog 198 1 8 (.nilFunc) := ⟨Tryz.t198, Tryz.type198, rfl, rfl, rfl⟩
instance g198 : TyG Tryz.prog 198 false 1 := ⟨_, Tryz.t198, Tryz.underlying198, Tryz.type198, rfl, rfl⟩
instance n199 : TyN Tryz.prog 199 1 8 (.nilFunc) := ⟨Tryz.t199, Tryz.type199, rfl, rfl, rfl⟩
instance g199 : TyG Tryz.prog 199 false 1 := ⟨_, Tryz.t199, Tryz.underlying199, Tryz.type199, rfl, rfl⟩
instance n200 : TyN Tryz.prog 200 1 8 (.nilFunc) := ⟨Tryz.t200, Tryz.type200, rfl, rfl, rfl⟩
instance g200 : TyG Tryz.prog 200 false 1 := ⟨_, Tryz.t200, Tryz.underlying200, Tryz.type200, rfl, rfl⟩
instance n201 : TyN Tryz.prog 201 1 8 (.nilFunc) := ⟨Tryz.t201, Tryz.type201, rfl, rfl, rfl⟩
instance g201 : TyG Tryz.prog 201 false 1 := ⟨_, Tryz.t201, Tryz.underlying201, Tryz.type201, rfl, rfl⟩
instance n203 : TyN Tryz.prog 203 1 8 (.nilFunc) := ⟨Tryz.t203, Tryz.type203, rfl, rfl, rfl⟩
instance g203 : TyG Tryz.prog 203 false 1 := ⟨_, Tryz.t203, Tryz.underlying203, Tryz.type203, rfl, rfl⟩
instance n205 : TyN Tryz.prog 205 1 8 (.nilFunc) := ⟨Tryz.t205, Tryz.type205, rfl, rfl, rfl⟩
instance g205 : TyG Tryz.prog 205 false 1 := ⟨_, Tryz.t205, Tryz.underlying205, Tryz.type205, rfl, rfl⟩
instance d206 : TyD Tryz.prog 206 (.int .u32) := ⟨Tryz.underlying206⟩
instance n206 : TyN Tryz.prog 206 1 4 (.int .u32 0) := ⟨Tryz.t206, Tryz.type206, rfl, rfl, rfl⟩
instance g206 : TyG Tryz.prog 206 false 1 := ⟨_, Tryz.t206, Tryz.underlying206, Tryz.type206, rfl, rfl⟩
instance n207 : TyN Tryz.prog 207 1 8 (.nilFunc) := ⟨Tryz.t207, Tryz.type207, rfl, rfl, rfl⟩
instance g207 : TyG Tryz.prog 207 false 1 := ⟨_, Tryz.t207, Tryz.underlying207, Tryz.type207, rfl, rfl⟩
instance d208 : TyD Tryz.prog 208 (.int .u16) := ⟨Tryz.underlying208⟩
instance n208 : TyN Tryz.prog 208 1 2 (.int .u16 0) := ⟨Tryz.t208, Tryz.type208, rfl, rfl, rfl⟩
instance g208 : TyG Tryz.prog 208 false 1 := ⟨_, Tryz.t208, Tryz.underlying208, Tryz.type208, rfl, rfl⟩
instance n210 : TyN Tryz.prog 210 1 8 (.nilFunc) := ⟨Tryz.t210, Tryz.type210, rfl, rfl, rfl⟩
instance g210 : TyG Tryz.prog 210 false 1 := ⟨_, Tryz.t210, Tryz.underlying210, Tryz.type210, rfl, rfl⟩
instance n211 : TyN Tryz.prog 211 1 8 (.nilFunc) := ⟨Tryz.t211, Tryz.type211, rfl, rfl, rfl⟩
instance g211 : TyG Tryz.prog 211 false 1 := ⟨_, Tryz.t211, Tryz.underlying211, Tryz.type211, rfl, rfl⟩
instance n212 : TyN Tryz.prog 212 1 8 (.nilFunc) := ⟨Tryz.t212, Tryz.type212, rfl, rfl, rfl⟩
instance g212 : TyG Tryz.prog 212 false 1 := ⟨_, Tryz.t212, Tryz.underlying212, Tryz.type212, rfl, rfl⟩
instance d213 : TyD Tryz.prog 213 (.array 24 5) := ⟨Tryz.underlying213⟩
instance n213 : TyN Tryz.prog 213 24 24 (.agg #[.int .u8 0, .int .u8 0, .int .u8 0, .int .u8 0, .int .u8 0, .int .u8 0, .int .u8 0, .int .u8 0, .int .u8 0, .int .u8 0, .int .u8 0, .int .u8 0, .int .u8 0, .int .u8 0, .int .u8 0, .int .u8 0, .int .u8 0, .int .u8 0, .int .u8 0, .int .u8 0, .int .u8 0, .int .u8 0, .int .u8 0, .int .u8 0]) := ⟨Tryz.t213, Tryz.type213, rfl, rfl, rfl⟩
instance g213 : TyG Tryz.prog 213 true 24 := ⟨_, Tryz.t213, Tryz.underlying213, Tryz.type213, rfl, rfl⟩
instance l213 : TyL Tryz.prog 213 24 1 := ⟨5, Tryz.t5, Tryz.underlying213, Tryz.type5, rfl⟩
instance b213 : TyB Tryz.prog 213 [(0, 1), (1, 1), (2, 1), (3, 1), (4, 1), (5, 1), (6, 1), (7, 1), (8, 1), (9, 1), (10, 1), (11, 1), (12, 1), (13, 1), (14, 1), (15, 1), (16, 1), (17, 1), (18, 1), (19, 1), (20, 1), (21, 1), (22, 1), (23, 1)] (.agg #[.int .u8 0, .int .u8 0, .int .u8 0, .int .u8 0, .int .u8 0, .int .u8 0, .int .u8 0, .int .u8 0, .int .u8 0, .int .u8 0, .int .u8 0, .int .u8 0, .int .u8 0, .int .u8 0, .int .u8 0, .int .u8 0, .int .u8 0, .int .u8 0, .int .u8 0, .int .u8 0, .int .u8 0, .int .u8 0, .int .u8 0, .int .u8 0]) := ⟨Tryz.t213, Tryz.type213, rfl, .inr ⟨24, 5, Tryz.t5, Tryz.underlying213, Tryz.type5, rfl⟩⟩
instance n214 : TyN Tryz.prog 214 1 8 (.nilFunc) := ⟨Tryz.t214, Tryz.type214, rfl, rfl, rfl⟩
instance g214 : TyG Tryz.prog 214 false 1 := ⟨_, Tryz.t214, Tryz.underlying214, Tryz.type214, rfl, rfl⟩
instance n215 : TyN Tryz.prog 215 1 8 (.nilFunc) := ⟨Tryz.t215, Tryz.type215, rfl, rfl, rfl⟩
instance g215 : TyG Tryz.prog 215 false 1 := ⟨_, Tryz.t215, Tryz.underlying215, Tryz.type215, rfl, rfl⟩
instance n217 : TyN Tryz.prog 217 1 8 (.nilFunc) := ⟨Tryz.t217, Tryz.type217, rfl, rfl, rfl⟩
instance g217 : TyG Tryz.prog 217 false 1 := ⟨_, Tryz.t217, Tryz.underlying217, Tryz.type217, rfl, rfl⟩
instance n218 : TyN Tryz.prog 218 1 8 (.nilFunc) := ⟨Tryz.t218, Tryz.type218, rfl, rfl, rfl⟩
instance g218 : TyG Tryz.prog 218 false 1 := ⟨_, Tryz.t218, Tryz.underlying218, Tryz.type218, rfl, rfl⟩
instance d219 : TyD Tryz.prog 219 (.array 256 4) := ⟨Tryz.underlying219⟩
instance n219 : TyN Tryz.prog 219 256 256 (.agg ⟨List.replicate 256 (.bool false)⟩) := ⟨Tryz.t219, Tryz.type219, rfl, rfl, by kernel_rfl⟩
instance g219 : TyG Tryz.prog 219 true 256 := ⟨_, Tryz.t219, Tryz.underlying219, Tryz.type219, rfl, rfl⟩
instance l219 : TyL Tryz.prog 219 256 1 := ⟨4, Tryz.t4, Tryz.underlying219, Tryz.type4, rfl⟩
instance d220 : TyD Tryz.prog 220 (.array 256 4) := ⟨Tryz.underlying220⟩
instance n220 : TyN Tryz.prog 220 256 256 (.agg ⟨List.replicate 256 (.bool false)⟩) := ⟨Tryz.t220, Tryz.type220, rfl, rfl, by kernel_rfl⟩
instance g220 : TyG Tryz.prog 220 true 256 := ⟨_, Tryz.t220, Tryz.underlying220, Tryz.type220, rfl, rfl⟩
instance l220 : TyL Tryz.prog 220 256 1 := ⟨4, Tryz.t4, Tryz.underlying220, Tryz.type4, rfl⟩
instance n222 : TyN Tryz.prog 222 1 8 (.nilFunc) := ⟨Tryz.t222, Tryz.type222, rfl, rfl, rfl⟩
instance g222 : TyG Tryz.prog 222 false 1 := ⟨_, Tryz.t222, Tryz.underlying222, Tryz.type222, rfl, rfl⟩
instance n223 : TyN Tryz.prog 223 1 8 (.nilFunc) := ⟨Tryz.t223, Tryz.type223, rfl, rfl, rfl⟩
instance g223 : TyG Tryz.prog 223 false 1 := ⟨_, Tryz.t223, Tryz.underlying223, Tryz.type223, rfl, rfl⟩
instance d224 : TyD Tryz.prog 224 (.pointer 220) := ⟨Tryz.underlying224⟩
instance n224 : TyN Tryz.prog 224 1 8 (.pointer none) := ⟨Tryz.t224, Tryz.type224, rfl, rfl, rfl⟩
instance g224 : TyG Tryz.prog 224 false 1 := ⟨_, Tryz.t224, Tryz.underlying224, Tryz.type224, rfl, rfl⟩
instance d225 : TyD Tryz.prog 225 (.int .i64) := ⟨Tryz.underlying225⟩
instance n225 : TyN Tryz.prog 225 1 8 (.int .i64 0) := ⟨Tryz.t225, Tryz.type225, rfl, rfl, rfl⟩
instance g225 : TyG Tryz.prog 225 false 1 := ⟨_, Tryz.t225, Tryz.underlying225, Tryz.type225, rfl, rfl⟩
instance d226 : TyD Tryz.prog 226 (.pointer 245) := ⟨Tryz.underlying226⟩
instance n226 : TyN Tryz.prog 226 1 8 (.pointer none) := ⟨Tryz.t226, Tryz.type226, rfl, rfl, rfl⟩
instance g226 : TyG Tryz.prog 226 false 1 := ⟨_, Tryz.t226, Tryz.underlying226, Tryz.type226, rfl, rfl⟩
instance n227 : TyN Tryz.prog 227 1 8 (.nilFunc) := ⟨Tryz.t227, Tryz.type227, rfl, rfl, rfl⟩
instance g227 : TyG Tryz.prog 227 false 1 := ⟨_, Tryz.t227, Tryz.underlying227, Tryz.type227, rfl, rfl⟩
instance n228 : TyN Tryz.prog 228 1 8 (.nilFunc) := ⟨Tryz.t228, Tryz.type228, rfl, rfl, rfl⟩
instance g228 : TyG Tryz.prog 228 false 1 := ⟨_, Tryz.t228, Tryz.underlying228, Tryz.type228, rfl, rfl⟩
instance n229 : TyN Tryz.prog 229 1 8 (.nilFunc) := ⟨Tryz.t229, Tryz.type229, rfl, rfl, rfl⟩
instance g229 : TyG Tryz.prog 229 false 1 := ⟨_, Tryz.t229, Tryz.underlying229, Tryz.type229, rfl, rfl⟩
instance n231 : TyN Tryz.prog 231 1 8 (.nilFunc) := ⟨Tryz.t231, Tryz.type231, rfl, rfl, rfl⟩
instance g231 : TyG Tryz.prog 231 false 1 := ⟨_, Tryz.t231, Tryz.underlying231, Tryz.type231, rfl, rfl⟩
instance n232 : TyN Tryz.prog 232 1 8 (.nilFunc) := ⟨Tryz.t232, Tryz.type232, rfl, rfl, rfl⟩
instance g232 : TyG Tryz.prog 232 false 1 := ⟨_, Tryz.t232, Tryz.underlying232, Tryz.type232, rfl, rfl⟩
instance d233 : TyD Tryz.prog 233 (.array 256 5) := ⟨Tryz.underlying233⟩
instance n233 : TyN Tryz.prog 233 256 256 (.agg ⟨List.replicate 256 (.int .u8 0)⟩) := ⟨Tryz.t233, Tryz.type233, rfl, rfl, by kernel_rfl⟩
instance g233 : TyG Tryz.prog 233 true 256 := ⟨_, Tryz.t233, Tryz.underlying233, Tryz.type233, rfl, rfl⟩
instance l233 : TyL Tryz.prog 233 256 1 := ⟨5, Tryz.t5, Tryz.underlying233, Tryz.type5, rfl⟩
instance n234 : TyN Tryz.prog 234 2 2 (.agg #[.int .u8 0, .int .u8 0]) := ⟨Tryz.t234, Tryz.type234, rfl, rfl, rfl⟩
instance g234 : TyG Tryz.prog 234 true 2 := ⟨_, Tryz.t234, Tryz.underlying234, Tryz.type234, rfl, rfl⟩
instance f234_0 : TyF Tryz.prog 234 0 0 := ⟨_, _, Tryz.t5, Tryz.underlying234, rfl, rfl, Tryz.type5, by decide⟩
instance f234_1 : TyF Tryz.prog 234 1 1 := ⟨_, _, Tryz.t5, Tryz.underlying234, rfl, rfl, Tryz.type5, by decide⟩
instance b234 : TyB Tryz.prog 234 [(0, 1), (1, 1)] (.agg #[.int .u8 0, .int .u8 0]) := ⟨Tryz.t234, Tryz.type234, rfl, .inl ⟨_, Tryz.underlying234, rfl⟩⟩
instance n235 : TyN Tryz.prog 235 2 2 (.agg #[.int .u8 0, .int .u8 0]) := ⟨Tryz.t235, Tryz.type235, rfl, rfl, rfl⟩
instance g235 : TyG Tryz.prog 235 true 2 := ⟨_, Tryz.t235, Tryz.underlying235, Tryz.type235, rfl, rfl⟩
instance f235_0 : TyF Tryz.prog 235 0 0 := ⟨_, _, Tryz.t5, Tryz.underlying235, rfl, rfl, Tryz.type5, by decide⟩
instance f235_1 : TyF Tryz.prog 235 1 1 := ⟨_, _, Tryz.t5, Tryz.underlying235, rfl, rfl, Tryz.type5, by decide⟩
instance b235 : TyB Tryz.prog 235 [(0, 1), (1, 1)] (.agg #[.int .u8 0, .int .u8 0]) := ⟨Tryz.t235, Tryz.type235, rfl, .inl ⟨_, Tryz.underlying235, rfl⟩⟩
instance d236 : TyD Tryz.prog 236 (.array 16 235) := ⟨Tryz.underlying236⟩
instance n236 : TyN Tryz.prog 236 32 32 (.agg #[.int .u8 0, .int .u8 0, .int .u8 0, .int .u8 0, .int .u8 0, .int .u8 0, .int .u8 0, .int .u8 0, .int .u8 0, .int .u8 0, .int .u8 0, .int .u8 0, .int .u8 0, .int .u8 0, .int .u8 0, .int .u8 0, .int .u8 0, .int .u8 0, .int .u8 0, .int .u8 0, .int .u8 0, .int .u8 0, .int .u8 0, .int .u8 0, .int .u8 0, .int .u8 0, .int .u8 0, .int .u8 0, .int .u8 0, .int .u8 0, .int .u8 0, .int .u8 0]) := ⟨Tryz.t236, Tryz.type236, rfl, rfl, rfl⟩
instance g236 : TyG Tryz.prog 236 true 32 := ⟨_, Tryz.t236, Tryz.underlying236, Tryz.type236, rfl, rfl⟩
instance l236 : TyL Tryz.prog 236 16 2 := ⟨235, Tryz.t235, Tryz.underlying236, Tryz.type235, rfl⟩
instance b236 : TyB Tryz.prog 236 [(0, 2), (2, 2), (4, 2), (6, 2), (8, 2), (10, 2), (12, 2), (14, 2), (16, 2), (18, 2), (20, 2), (22, 2), (24, 2), (26, 2), (28, 2), (30, 2)] (.agg #[.int .u8 0, .int .u8 0, .int .u8 0, .int .u8 0, .int .u8 0, .int .u8 0, .int .u8 0, .int .u8 0, .int .u8 0, .int .u8 0, .int .u8 0, .int .u8 0, .int .u8 0, .int .u8 0, .int .u8 0, .int .u8 0, .int .u8 0, .int .u8 0, .int .u8 0, .int .u8 0, .int .u8 0, .int .u8 0, .int .u8 0, .int .u8 0, .int .u8 0, .int .u8 0, .int .u8 0, .int .u8 0, .int .u8 0, .int .u8 0, .int .u8 0, .int .u8 0]) := ⟨Tryz.t236, Tryz.type236, rfl, .inr ⟨16, 235, Tryz.t235, Tryz.underlying236, Tryz.type235, rfl⟩⟩
instance n237 : TyN Tryz.prog 237 1 8 (.nilFunc) := ⟨Tryz.t237, Tryz.type237, rfl, rfl, rfl⟩
instance g237 : TyG Tryz.prog 237 false 1 := ⟨_, Tryz.t237, Tryz.underlying237, Tryz.type237, rfl, rfl⟩
instance d238 : TyD Tryz.prog 238 (.array 20 97) := ⟨Tryz.underlying238⟩
instance n238 : TyN Tryz.prog 238 20 160 (.agg #[.int .u64 0, .int .u64 0, .int .u64 0, .int .u64 0, .int .u64 0, .int .u64 0, .int .u64 0, .int .u64 0, .int .u64 0, .int .u64 0, .int .u64 0, .int .u64 0, .int .u64 0, .int .u64 0, .int .u64 0, .int .u64 0, .int .u64 0, .int .u64 0, .int .u64 0, .int .u64 0]) := ⟨Tryz.t238, Tryz.type238, rfl, rfl, rfl⟩
instance g238 : TyG Tryz.prog 238 true 20 := ⟨_, Tryz.t238, Tryz.underlying238, Tryz.type238, rfl, rfl⟩
instance l238 : TyL Tryz.prog 238 20 1 := ⟨97, Tryz.t97, Tryz.underlying238, Tryz.type97, rfl⟩
instance b238 : TyB Tryz.prog 238 [(0, 1), (1, 1), (2, 1), (3, 1), (4, 1), (5, 1), (6, 1), (7, 1), (8, 1), (9, 1), (10, 1), (11, 1), (12, 1), (13, 1), (14, 1), (15, 1), (16, 1), (17, 1), (18, 1), (19, 1)] (.agg #[.int .u64 0, .int .u64 0, .int .u64 0, .int .u64 0, .int .u64 0, .int .u64 0, .int .u64 0, .int .u64 0, .int .u64 0, .int .u64 0, .int .u64 0, .int .u64 0, .int .u64 0, .int .u64 0, .int .u64 0, .int .u64 0, .int .u64 0, .int .u64 0, .int .u64 0, .int .u64 0]) := ⟨Tryz.t238, Tryz.type238, rfl, .inr ⟨20, 97, Tryz.t97, Tryz.underlying238, Tryz.type97, rfl⟩⟩
instance d239 : TyD Tryz.prog 239 (.array 65 5) := ⟨Tryz.underlying239⟩
instance n239 : TyN Tryz.prog 239 65 65 (.agg ⟨List.replicate 65 (.int .u8 0)⟩) := ⟨Tryz.t239, Tryz.type239, rfl, rfl, by kernel_rfl⟩
instance g239 : TyG Tryz.prog 239 true 65 := ⟨_, Tryz.t239, Tryz.underlying239, Tryz.type239, rfl, rfl⟩
instance l239 : TyL Tryz.prog 239 65 1 := ⟨5, Tryz.t5, Tryz.underlying239, Tryz.type5, rfl⟩
instance n240 : TyN Tryz.prog 240 1 8 (.nilFunc) := ⟨Tryz.t240, Tryz.type240, rfl, rfl, rfl⟩
instance g240 : TyG Tryz.prog 240 false 1 := ⟨_, Tryz.t240, Tryz.underlying240, Tryz.type240, rfl, rfl⟩
instance n241 : TyN Tryz.prog 241 1 8 (.nilFunc) := ⟨Tryz.t241, Tryz.type241, rfl, rfl, rfl⟩
instance g241 : TyG Tryz.prog 241 false 1 := ⟨_, Tryz.t241, Tryz.underlying241, Tryz.type241, rfl, rfl⟩
instance n242 : TyN Tryz.prog 242 1 8 (.nilFunc) := ⟨Tryz.t242, Tryz.type242, rfl, rfl, rfl⟩
instance g242 : TyG Tryz.prog 242 false 1 := ⟨_, Tryz.t242, Tryz.underlying242, Tryz.type242, rfl, rfl⟩
instance n243 : TyN Tryz.prog 243 1 8 (.nilFunc) := ⟨Tryz.t243, Tryz.type243, rfl, rfl, rfl⟩
instance g243 : TyG Tryz.prog 243 false 1 := ⟨_, Tryz.t243, Tryz.underlying243, Tryz.type243, rfl, rfl⟩
instance n244 : TyN Tryz.prog 244 3 48 (.agg #[.string ⟨#[]⟩, .string ⟨#[]⟩, .nilIface]) := ⟨Tryz.t244, Tryz.type244, rfl, rfl, rfl⟩
instance g244 : TyG Tryz.prog 244 true 3 := ⟨_, Tryz.t244, Tryz.underlying244, Tryz.type244, rfl, rfl⟩
instance f244_0 : TyF Tryz.prog 244 0 0 := ⟨_, _, Tryz.t9, Tryz.underlying244, rfl, rfl, Tryz.type9, by decide⟩
instance f244_1 : TyF Tryz.prog 244 1 1 := ⟨_, _, Tryz.t9, Tryz.underlying244, rfl, rfl, Tryz.type9, by decide⟩
instance f244_2 : TyF Tryz.prog 244 2 2 := ⟨_, _, Tryz.t175, Tryz.underlying244, rfl, rfl, Tryz.type175, by decide⟩
instance b244 : TyB Tryz.prog 244 [(0, 1), (1, 1), (2, 1)] (.agg #[.string ⟨#[]⟩, .string ⟨#[]⟩, .nilIface]) := ⟨Tryz.t244, Tryz.type244, rfl, .inl ⟨_, Tryz.underlying244, rfl⟩⟩
instance n245 : TyN Tryz.prog 245 3 48 (.agg #[.string ⟨#[]⟩, .string ⟨#[]⟩, .nilIface]) := ⟨Tryz.t245, Tryz.type245, rfl, rfl, rfl⟩
instance g245 : TyG Tryz.prog 245 true 3 := ⟨_, Tryz.t245, Tryz.underlying245, Tryz.type245, rfl, rfl⟩
instance f245_0 : TyF Tryz.prog 245 0 0 := ⟨_, _, Tryz.t9, Tryz.underlying245, rfl, rfl, Tryz.type9, by decide⟩
instance f245_1 : TyF Tryz.prog 245 1 1 := ⟨_, _, Tryz.t9, Tryz.underlying245, rfl, rfl, Tryz.type9, by decide⟩
instance f245_2 : TyF Tryz.prog 245 2 2 := ⟨_, _, Tryz.t175, Tryz.underlying245, rfl, rfl, Tryz.type175, by decide⟩
instance b245 : TyB Tryz.prog 245 [(0, 1), (1, 1), (2, 1)] (.agg #[.string ⟨#[]⟩, .string ⟨#[]⟩, .nilIface]) := ⟨Tryz.t245, Tryz.type245, rfl, .inl ⟨_, Tryz.underlying245, rfl⟩⟩
instance n246 : TyN Tryz.prog 246 1 8 (.nilFunc) := ⟨Tryz.t246, Tryz.type246, rfl, rfl, rfl⟩
instance g246 : TyG Tryz.prog 246 false 1 := ⟨_, Tryz.t246, Tryz.underlying246, Tryz.type246, rfl, rfl⟩
instance n247 : TyN Tryz.prog 247 1 8 (.nilFunc) := ⟨Tryz.t247, Tryz.type247, rfl, rfl, rfl⟩
instance g247 : TyG Tryz.prog 247 false 1 := ⟨_, Tryz.t247, Tryz.underlying247, Tryz.type247, rfl, rfl⟩
instance n248 : TyN Tryz.prog 248 1 8 (.nilFunc) := ⟨Tryz.t248, Tryz.type248, rfl, rfl, rfl⟩
instance g248 : TyG Tryz.prog 248 false 1 := ⟨_, Tryz.t248, Tryz.underlying248, Tryz.type248, rfl, rfl⟩
instance d249 : TyD Tryz.prog 249 (.pointer 5) := ⟨Tryz.underlying249⟩
instance n249 : TyN Tryz.prog 249 1 8 (.pointer none) := ⟨Tryz.t249, Tryz.type249, rfl, rfl, rfl⟩
instance g249 : TyG Tryz.prog 249 false 1 := ⟨_, Tryz.t249, Tryz.underlying249, Tryz.type249, rfl, rfl⟩
instance d250 : TyD Tryz.prog 250 (.pointer 252) := ⟨Tryz.underlying250⟩
instance n250 : TyN Tryz.prog 250 1 8 (.pointer none) := ⟨Tryz.t250, Tryz.type250, rfl, rfl, rfl⟩
instance g250 : TyG Tryz.prog 250 false 1 := ⟨_, Tryz.t250, Tryz.underlying250, Tryz.type250, rfl, rfl⟩
instance n251 : TyN Tryz.prog 251 1 16 (.agg #[.string ⟨#[]⟩]) := ⟨Tryz.t251, Tryz.type251, rfl, rfl, rfl⟩
instance g251 : TyG Tryz.prog 251 true 1 := ⟨_, Tryz.t251, Tryz.underlying251, Tryz.type251, rfl, rfl⟩
instance f251_0 : TyF Tryz.prog 251 0 0 := ⟨_, _, Tryz.t9, Tryz.underlying251, rfl, rfl, Tryz.type9, by decide⟩
instance b251 : TyB Tryz.prog 251 [(0, 1)] (.agg #[.string ⟨#[]⟩]) := ⟨Tryz.t251, Tryz.type251, rfl, .inl ⟨_, Tryz.underlying251, rfl⟩⟩
instance n252 : TyN Tryz.prog 252 1 16 (.agg #[.string ⟨#[]⟩]) := ⟨Tryz.t252, Tryz.type252, rfl, rfl, rfl⟩
instance g252 : TyG Tryz.prog 252 true 1 := ⟨_, Tryz.t252, Tryz.underlying252, Tryz.type252, rfl, rfl⟩
instance f252_0 : TyF Tryz.prog 252 0 0 := ⟨_, _, Tryz.t9, Tryz.underlying252, rfl, rfl, Tryz.type9, by decide⟩
instance b252 : TyB Tryz.prog 252 [(0, 1)] (.agg #[.string ⟨#[]⟩]) := ⟨Tryz.t252, Tryz.type252, rfl, .inl ⟨_, Tryz.underlying252, rfl⟩⟩
instance n254 : TyN Tryz.prog 254 1 8 (.nilFunc) := ⟨Tryz.t254, Tryz.type254, rfl, rfl, rfl⟩
instance g254 : TyG Tryz.prog 254 false 1 := ⟨_, Tryz.t254, Tryz.underlying254, Tryz.type254, rfl, rfl⟩
instance d255 : TyD Tryz.prog 255 (.array 32 5) := ⟨Tryz.underlying255⟩
instance n255 : TyN Tryz.prog 255 32 32 (.agg #[.int .u8 0, .int .u8 0, .int .u8 0, .int .u8 0, .int .u8 0, .int .u8 0, .int .u8 0, .int .u8 0, .int .u8 0, .int .u8 0, .int .u8 0, .int .u8 0, .int .u8 0, .int .u8 0, .int .u8 0, .int .u8 0, .int .u8 0, .int .u8 0, .int .u8 0, .int .u8 0, .int .u8 0, .int .u8 0, .int .u8 0, .int .u8 0, .int .u8 0, .int .u8 0, .int .u8 0, .int .u8 0, .int .u8 0, .int .u8 0, .int .u8 0, .int .u8 0]) := ⟨Tryz.t255, Tryz.type255, rfl, rfl, rfl⟩
instance g255 : TyG Tryz.prog 255 true 32 := ⟨_, Tryz.t255, Tryz.underlying255, Tryz.type255, rfl, rfl⟩
instance l255 : TyL Tryz.prog 255 32 1 := ⟨5, Tryz.t5, Tryz.underlying255, Tryz.type5, rfl⟩
instance b255 : TyB Tryz.prog 255 [(0, 1), (1, 1), (2, 1), (3, 1), (4, 1), (5, 1), (6, 1), (7, 1), (8, 1), (9, 1), (10, 1), (11, 1), (12, 1), (13, 1), (14, 1), (15, 1), (16, 1), (17, 1), (18, 1), (19, 1), (20, 1), (21, 1), (22, 1), (23, 1), (24, 1), (25, 1), (26, 1), (27, 1), (28, 1), (29, 1), (30, 1), (31, 1)] (.agg #[.int .u8 0, .int .u8 0, .int .u8 0, .int .u8 0, .int .u8 0, .int .u8 0, .int .u8 0, .int .u8 0, .int .u8 0, .int .u8 0, .int .u8 0, .int .u8 0, .int .u8 0, .int .u8 0, .int .u8 0, .int .u8 0, .int .u8 0, .int .u8 0, .int .u8 0, .int .u8 0, .int .u8 0, .int .u8 0, .int .u8 0, .int .u8 0, .int .u8 0, .int .u8 0, .int .u8 0, .int .u8 0, .int .u8 0, .int .u8 0, .int .u8 0, .int .u8 0]) := ⟨Tryz.t255, Tryz.type255, rfl, .inr ⟨32, 5, Tryz.t5, Tryz.underlying255, Tryz.type5, rfl⟩⟩
instance d256 : TyD Tryz.prog 256 (.array 64 5) := ⟨Tryz.underlying256⟩
instance n256 : TyN Tryz.prog 256 64 64 (.agg #[.int .u8 0, .int .u8 0, .int .u8 0, .int .u8 0, .int .u8 0, .int .u8 0, .int .u8 0, .int .u8 0, .int .u8 0, .int .u8 0, .int .u8 0, .int .u8 0, .int .u8 0, .int .u8 0, .int .u8 0, .int .u8 0, .int .u8 0, .int .u8 0, .int .u8 0, .int .u8 0, .int .u8 0, .int .u8 0, .int .u8 0, .int .u8 0, .int .u8 0, .int .u8 0, .int .u8 0, .int .u8 0, .int .u8 0, .int .u8 0, .int .u8 0, .int .u8 0, .int .u8 0, .int .u8 0, .int .u8 0, .int .u8 0, .int .u8 0, .int .u8 0, .int .u8 0, .int .u8 0, .int .u8 0, .int .u8 0, .int .u8 0, .int .u8 0, .int .u8 0, .int .u8 0, .int .u8 0, .int .u8 0, .int .u8 0, .int .u8 0, .int .u8 0, .int .u8 0, .int .u8 0, .int .u8 0, .int .u8 0, .int .u8 0, .int .u8 0, .int .u8 0, .int .u8 0, .int .u8 0, .int .u8 0, .int .u8 0, .int .u8 0, .int .u8 0]) := ⟨Tryz.t256, Tryz.type256, rfl, rfl, rfl⟩
instance g256 : TyG Tryz.prog 256 true 64 := ⟨_, Tryz.t256, Tryz.underlying256, Tryz.type256, rfl, rfl⟩
instance l256 : TyL Tryz.prog 256 64 1 := ⟨5, Tryz.t5, Tryz.underlying256, Tryz.type5, rfl⟩
instance n257 : TyN Tryz.prog 257 1 8 (.nilFunc) := ⟨Tryz.t257, Tryz.type257, rfl, rfl, rfl⟩
instance g257 : TyG Tryz.prog 257 false 1 := ⟨_, Tryz.t257, Tryz.underlying257, Tryz.type257, rfl, rfl⟩
instance n258 : TyN Tryz.prog 258 1 8 (.nilFunc) := ⟨Tryz.t258, Tryz.type258, rfl, rfl, rfl⟩
instance g258 : TyG Tryz.prog 258 false 1 := ⟨_, Tryz.t258, Tryz.underlying258, Tryz.type258, rfl, rfl⟩
instance n259 : TyN Tryz.prog 259 4 40 (.agg #[.pointer none, .pointer none, .pointer none, .string ⟨#[]⟩]) := ⟨Tryz.t259, Tryz.type259, rfl, rfl, rfl⟩
instance g259 : TyG Tryz.prog 259 true 4 := ⟨_, Tryz.t259, Tryz.underlying259, Tryz.type259, rfl, rfl⟩
instance f259_0 : TyF Tryz.prog 259 0 0 := ⟨_, _, Tryz.t17, Tryz.underlying259, rfl, rfl, Tryz.type17, by decide⟩
instance f259_1 : TyF Tryz.prog 259 1 1 := ⟨_, _, Tryz.t17, Tryz.underlying259, rfl, rfl, Tryz.type17, by decide⟩
instance f259_2 : TyF Tryz.prog 259 2 2 := ⟨_, _, Tryz.t17, Tryz.underlying259, rfl, rfl, Tryz.type17, by decide⟩
instance f259_3 : TyF Tryz.prog 259 3 3 := ⟨_, _, Tryz.t9, Tryz.underlying259, rfl, rfl, Tryz.type9, by decide⟩
instance b259 : TyB Tryz.prog 259 [(0, 1), (1, 1), (2, 1), (3, 1)] (.agg #[.pointer none, .pointer none, .pointer none, .string ⟨#[]⟩]) := ⟨Tryz.t259, Tryz.type259, rfl, .inl ⟨_, Tryz.underlying259, rfl⟩⟩
instance n260 : TyN Tryz.prog 260 4 40 (.agg #[.pointer none, .pointer none, .pointer none, .string ⟨#[]⟩]) := ⟨Tryz.t260, Tryz.type260, rfl, rfl, rfl⟩
instance g260 : TyG Tryz.prog 260 true 4 := ⟨_, Tryz.t260, Tryz.underlying260, Tryz.type260, rfl, rfl⟩
instance f260_0 : TyF Tryz.prog 260 0 0 := ⟨_, _, Tryz.t17, Tryz.underlying260, rfl, rfl, Tryz.type17, by decide⟩
instance f260_1 : TyF Tryz.prog 260 1 1 := ⟨_, _, Tryz.t17, Tryz.underlying260, rfl, rfl, Tryz.type17, by decide⟩
instance f260_2 : TyF Tryz.prog 260 2 2 := ⟨_, _, Tryz.t17, Tryz.underlying260, rfl, rfl, Tryz.type17, by decide⟩
instance f260_3 : TyF Tryz.prog 260 3 3 := ⟨_, _, Tryz.t9, Tryz.underlying260, rfl, rfl, Tryz.type9, by decide⟩
instance b260 : TyB Tryz.prog 260 [(0, 1), (1, 1), (2, 1), (3, 1)] (.agg #[.pointer none, .pointer none, .pointer none, .string ⟨#[]⟩]) := ⟨Tryz.t260, Tryz.type260, rfl, .inl ⟨_, Tryz.underlying260, rfl⟩⟩
instance d261 : TyD Tryz.prog 261 (.array 0 16) := ⟨Tryz.underlying261⟩
instance n261 : TyN Tryz.prog 261 0 0 (.agg #[]) := ⟨Tryz.t261, Tryz.type261, rfl, rfl, rfl⟩
instance g261 : TyG Tryz.prog 261 true 0 := ⟨_, Tryz.t261, Tryz.underlying261, Tryz.type261, rfl, rfl⟩
instance l261 : TyL Tryz.prog 261 0 1 := ⟨16, Tryz.t16, Tryz.underlying261, Tryz.type16, rfl⟩
instance b261 : TyB Tryz.prog 261 [] (.agg #[]) := ⟨Tryz.t261, Tryz.type261, rfl, .inr ⟨0, 16, Tryz.t16, Tryz.underlying261, Tryz.type16, rfl⟩⟩
instance n262 : TyN Tryz.prog 262 0 0 (.agg #[]) := ⟨Tryz.t262, Tryz.type262, rfl, rfl, rfl⟩
instance g262 : TyG Tryz.prog 262 true 0 := ⟨_, Tryz.t262, Tryz.underlying262, Tryz.type262, rfl, rfl⟩
instance b262 : TyB Tryz.prog 262 [(0, 0)] (.agg #[]) := ⟨Tryz.t262, Tryz.type262, rfl, .inl ⟨_, Tryz.underlying262, rfl⟩⟩
instance n263 : TyN Tryz.prog 263 0 0 (.agg #[]) := ⟨Tryz.t263, Tryz.type263, rfl, rfl, rfl⟩
instance g263 : TyG Tryz.prog 263 true 0 := ⟨_, Tryz.t263, Tryz.underlying263, Tryz.type263, rfl, rfl⟩
instance b263 : TyB Tryz.prog 263 [(0, 0)] (.agg #[]) := ⟨Tryz.t263, Tryz.type263, rfl, .inl ⟨_, Tryz.underlying263, rfl⟩⟩
instance n264 : TyN Tryz.prog 264 1 8 (.nilFunc) := ⟨Tryz.t264, Tryz.type264, rfl, rfl, rfl⟩
instance g264 : TyG Tryz.prog 264 false 1 := ⟨_, Tryz.t264, Tryz.underlying264, Tryz.type264, rfl, rfl⟩
instance d265 : TyD Tryz.prog 265 (.int .u8) := ⟨Tryz.underlying265⟩
instance n265 : TyN Tryz.prog 265 1 1 (.int .u8 0) := ⟨Tryz.t265, Tryz.type265, rfl, rfl, rfl⟩
instance g265 : TyG Tryz.prog 265 false 1 := ⟨_, Tryz.t265, Tryz.underlying265, Tryz.type265, rfl, rfl⟩
instance d266 : TyD Tryz.prog 266 (.int .u8) := ⟨Tryz.underlying266⟩
instance n266 : TyN Tryz.prog 266 1 1 (.int .u8 0) := ⟨Tryz.t266, Tryz.type266, rfl, rfl, rfl⟩
instance g266 : TyG Tryz.prog 266 false 1 := ⟨_, Tryz.t266, Tryz.underlying266, Tryz.type266, rfl, rfl⟩
instance n267 : TyN Tryz.prog 267 1 8 (.nilFunc) := ⟨Tryz.t267, Tryz.type267, rfl, rfl, rfl⟩
instance g267 : TyG Tryz.prog 267 false 1 := ⟨_, Tryz.t267, Tryz.underlying267, Tryz.type267, rfl, rfl⟩
instance d268 : TyD Tryz.prog 268 (.int .i32) := ⟨Tryz.underlying268⟩
instance n268 : TyN Tryz.prog 268 1 4 (.int .i32 0) := ⟨Tryz.t268, Tryz.type268, rfl, rfl, rfl⟩
instance g268 : TyG Tryz.prog 268 false 1 := ⟨_, Tryz.t268, Tryz.underlying268, Tryz.type268, rfl, rfl⟩
instance d269 : TyD Tryz.prog 269 (.int .i32) := ⟨Tryz.underlying269⟩
instance n269 : TyN Tryz.prog 269 1 4 (.int .i32 0) := ⟨Tryz.t269, Tryz.type269, rfl, rfl, rfl⟩
instance g269 : TyG Tryz.prog 269 false 1 := ⟨_, Tryz.t269, Tryz.underlying269, Tryz.type269, rfl, rfl⟩
instance n270 : TyN Tryz.prog 270 11 48 (.agg #[.int .u64 0, .int .u64 0, .int .u32 0, .int .u8 0, .int .u8 0, .int .u8 0, .int .u8 0, .nilFunc, .pointer none, .int .i32 0, .int .i32 0]) := ⟨Tryz.t270, Tryz.type270, rfl, rfl, rfl⟩
instance g270 : TyG Tryz.prog 270 true 11 := ⟨_, Tryz.t270, Tryz.underlying270, Tryz.type270, rfl, rfl⟩
instance f270_0 : TyF Tryz.prog 270 0 0 := ⟨_, _, Tryz.t12, Tryz.underlying270, rfl, rfl, Tryz.type12, by decide⟩
instance f270_1 : TyF Tryz.prog 270 1 1 := ⟨_, _, Tryz.t12, Tryz.underlying270, rfl, rfl, Tryz.type12, by decide⟩
instance f270_2 : TyF Tryz.prog 270 2 2 := ⟨_, _, Tryz.t206, Tryz.underlying270, rfl, rfl, Tryz.type206, by decide⟩
instance f270_3 : TyF Tryz.prog 270 3 3 := ⟨_, _, Tryz.t265, Tryz.underlying270, rfl, rfl, Tryz.type265, by decide⟩
instance f270_4 : TyF Tryz.prog 270 4 4 := ⟨_, _, Tryz.t5, Tryz.underlying270, rfl, rfl, Tryz.type5, by decide⟩
instance f270_5 : TyF Tryz.prog 270 5 5 := ⟨_, _, Tryz.t5, Tryz.underlying270, rfl, rfl, Tryz.type5, by decide⟩
instance f270_6 : TyF Tryz.prog 270 6 6 := ⟨_, _, Tryz.t266, Tryz.underlying270, rfl, rfl, Tryz.type266, by decide⟩
instance f270_7 : TyF Tryz.prog 270 7 7 := ⟨_, _, Tryz.t267, Tryz.underlying270, rfl, rfl, Tryz.type267, by decide⟩
instance f270_8 : TyF Tryz.prog 270 8 8 := ⟨_, _, Tryz.t249, Tryz.underlying270, rfl, rfl, Tryz.type249, by decide⟩
instance f270_9 : TyF Tryz.prog 270 9 9 := ⟨_, _, Tryz.t268, Tryz.underlying270, rfl, rfl, Tryz.type268, by decide⟩
instance f270_10 : TyF Tryz.prog 270 10 10 := ⟨_, _, Tryz.t269, Tryz.underlying270, rfl, rfl, Tryz.type269, by decide⟩
instance b270 : TyB Tryz.prog 270 [(0, 1), (1, 1), (2, 1), (3, 1), (4, 1), (5, 1), (6, 1), (7, 1), (8, 1), (9, 1), (10, 1)] (.agg #[.int .u64 0, .int .u64 0, .int .u32 0, .int .u8 0, .int .u8 0, .int .u8 0, .int .u8 0, .nilFunc, .pointer none, .int .i32 0, .int .i32 0]) := ⟨Tryz.t270, Tryz.type270, rfl, .inl ⟨_, Tryz.underlying270, rfl⟩⟩
instance n271 : TyN Tryz.prog 271 11 48 (.agg #[.int .u64 0, .int .u64 0, .int .u32 0, .int .u8 0, .int .u8 0, .int .u8 0, .int .u8 0, .nilFunc, .pointer none, .int .i32 0, .int .i32 0]) := ⟨Tryz.t271, Tryz.type271, rfl, rfl, rfl⟩
instance g271 : TyG Tryz.prog 271 true 11 := ⟨_, Tryz.t271, Tryz.underlying271, Tryz.type271, rfl, rfl⟩
instance f271_0 : TyF Tryz.prog 271 0 0 := ⟨_, _, Tryz.t12, Tryz.underlying271, rfl, rfl, Tryz.type12, by decide⟩
instance f271_1 : TyF Tryz.prog 271 1 1 := ⟨_, _, Tryz.t12, Tryz.underlying271, rfl, rfl, Tryz.type12, by decide⟩
instance f271_2 : TyF Tryz.prog 271 2 2 := ⟨_, _, Tryz.t206, Tryz.underlying271, rfl, rfl, Tryz.type206, by decide⟩
instance f271_3 : TyF Tryz.prog 271 3 3 := ⟨_, _, Tryz.t265, Tryz.underlying271, rfl, rfl, Tryz.type265, by decide⟩
instance f271_4 : TyF Tryz.prog 271 4 4 := ⟨_, _, Tryz.t5, Tryz.underlying271, rfl, rfl, Tryz.type5, by decide⟩
instance f271_5 : TyF Tryz.prog 271 5 5 := ⟨_, _, Tryz.t5, Tryz.underlying271, rfl, rfl, Tryz.type5, by decide⟩
instance f271_6 : TyF Tryz.prog 271 6 6 := ⟨_, _, Tryz.t266, Tryz.underlying271, rfl, rfl, Tryz.type266, by decide⟩
instance f271_7 : TyF Tryz.prog 271 7 7 := ⟨_, _, Tryz.t267, Tryz.underlying271, rfl, rfl, Tryz.type267, by decide⟩
instance f271_8 : TyF Tryz.prog 271 8 8 := ⟨_, _, Tryz.t249, Tryz.underlying271, rfl, rfl, Tryz.type249, by decide⟩
instance f271_9 : TyF Tryz.prog 271 9 9 := ⟨_, _, Tryz.t268, Tryz.underlying271, rfl, rfl, Tryz.type268, by decide⟩
instance f271_10 : TyF Tryz.prog 271 10 10 := ⟨_, _, Tryz.t269, Tryz.underlying271, rfl, rfl, Tryz.type269, by decide⟩
instance b271 : TyB Tryz.prog 271 [(0, 1), (1, 1), (2, 1), (3, 1), (4, 1), (5, 1), (6, 1), (7, 1), (8, 1), (9, 1), (10, 1)] (.agg #[.int .u64 0, .int .u64 0, .int .u32 0, .int .u8 0, .int .u8 0, .int .u8 0, .int .u8 0, .nilFunc, .pointer none, .int .i32 0, .int .i32 0]) := ⟨Tryz.t271, Tryz.type271, rfl, .inl ⟨_, Tryz.underlying271, rfl⟩⟩
end Go.Proofs.YtoonnnifelnaiaaGreatDoor.A

namespace Go.Proofs.YtoonnnifelnaiaaGreatDoor.A
open Go.RowKit L
set_option linter.unusedVariables false
set_option maxRecDepth 20000
set_option linter.unusedSimpArgs false

section
variable {Γ : Cx} {P : Program} {Q : Exit → Act → World → Prop} {E : Env} {H : List HE} {N : Nat} {o : Oper} {ops : Array Oper} {rest : List Oper}

theorem AO.opB {d T room : Nat} {v : Nat → AV} {xs : List AV} (h : OpW P Γ.N o E H (NewBlk v T room xs)) (hw : wantedIs ops E o = some true) (hd : o.dst = some d) (hN : Nat.ble (d + 1) Γ.N = true) (k : ∀ b, AO Γ P ops Q rest ((d, v b) :: E) (.blk b T room xs :: H)) :
  AO Γ P ops Q (o :: rest) E H := AO.opN h hw hd hN (by rintro _ _ ⟨b, rfl, rfl⟩; exact k b)
theorem AO.opRow {d U k n : Nat} {xs : List AV} (h : OpW P Γ.N o E H (NewRow U k n xs)) (hw : wantedIs ops E o = some true) (hd : o.dst = some d) (hN : Nat.ble (d + 1) Γ.N = true) (next : ∀ v : Value, v.oneCell' = true → AO Γ P ops Q rest ((d, .val v) :: E) (.row v U k n xs :: H)) :
  AO Γ P ops Q (o :: rest) E H := AO.opN h hw hd hN (by rintro _ _ ⟨v, rfl, hv, rfl⟩; exact next v hv)
theorem AO.append' {T T2 U k bs d : Nat} {z : Value} {s x : Operand} {v : Value} {w : AV} {i n m : Nat} {xs ys zs : List AV} {H' : Value → List HE} [hs : TyS P T U k bs z] (ho : o.op = .call { callee := .builtin .append, args := #[s, x], argTypes := #[T, T2] }) (hgd : o.guard = none) (hd : o.dst = some d) (hN : Nat.ble (d + 1) Γ.N = true)
  (hz : Nat.beq z.cells.size k = true) (hk : Nat.ble 1 k = true) (hv : ev E s = some (.val v)) (hx : ev E x = some w) (hi : H[i]? = some (.row v U k n xs)) (hsrc : SrcA P T2 k H w m ys) (hone : ys.all AV.one = true) (hn : n + m ≤ maxLen) (hby : (n + m) * bs ≤ 140737488355328)
  (hzs : xs ++ ys = zs) (hH : ∀ v', H.set i (.row v' U k (n + m) zs) = H' v')
  (next : ∀ v' : Value, v'.oneCell' = true → AO Γ P ops Q rest ((d, .val v') :: E) (H' v')) : AO Γ P ops Q (o :: rest) E H :=
 AO.append ho hgd hd (Nat.le_of_ble_eq_true hN) hz hk hv hx hi hsrc hone hn hby fun v' h => by rw [hzs, hH]; exact next v' h

theorem wI64 {x : Int} (h : -9223372036854775808 ≤ x ∧ x ≤ 9223372036854775807) : IntKind.i64.wrap x = x := IntWalk.i64_in _ h
theorem wU64 {x : Int} (h : 0 ≤ x ∧ x ≤ 18446744073709551615) : IntKind.u64.wrap x = x := by rw [IntKind.wrap_u64]; exact Int.emod_eq_of_lt h.1 (by omega)
theorem wU8 {x : Int} (h : 0 ≤ x ∧ x ≤ 255) : IntKind.u8.wrap x = x := by
 show (if false = true ∧ x % (2 ^ 8) ≥ 2 ^ (8 - 1) then x % (2 ^ 8) - 2 ^ 8 else x % (2 ^ 8)) = x
 rw [if_neg (by simp)]; exact Int.emod_eq_of_lt h.1 (by omega)

theorem bTrue {p : Prop} [Decidable p] (h : p) : decide p = true := decide_eq_true h
theorem bFalse {p : Prop} [Decidable p] (h : ¬ p) : decide p = false := decide_eq_false h

/-- 'nil' reads as nothing. -/
theorem RelV.nilRo {R : Nat → Prop} {W : World} {u : Value} (h : RelV R W (.val (.slice none 0 0)) u) : RelV R W (.ro false 0 []) u := by
 rw [h.val_inv]; exact .emp _ _ _ (fun h => by cases h) (Nat.zero_le _)
theorem RelV.unfull {R : Nat → Prop} {W : World} {full : Bool} {n : Nat} {xs : List AV} {u : Value} (h : RelV R W (.ro full n xs) u) : RelV R W (.ro false n xs) u := by
 cases h with
 | emp _ a cap h1 h2 => exact .emp _ a cap (fun h => by cases h) h2
 | ro _ _ _ b off cap us hb hc hr h1 h2 h3 => exact .ro _ _ _ b off cap us hb hc hr h1 h2 (fun h => by cases h)
theorem RelA.shadow {R : Nat → Prop} {W : World} {a : Act} (ha : RelA N R W E a) {t : Nat} {w : AV} (h : RelV R W w (a.eval (.tmp t))) : RelA N R W ((t, w) :: E) a :=
 ⟨ha.defers, ha.size, fun s v hs => by
  unfold look at hs
  cases hb : Nat.beq t s with
  | true => rw [hb] at hs; cases hs; have := Nat.eq_of_beq_eq_true hb; subst this; exact h
  | false => rw [hb] at hs; exact ha.slots s v hs⟩
theorem G.nilRo {X : Act → World → Prop} (t : Nat) (ht : look E t = some (.val (.slice none 0 0))) (k : G Γ ((t, .ro false 0 []) :: E) H X) : G Γ E H X := fun R a W hs ha =>
 k R a W hs (ha.shadow (ha.slots t _ ht).nilRo)
theorem G.unfull {X : Act → World → Prop} (t : Nat) {full : Bool} {n : Nat} {xs : List AV} (ht : look E t = some (.ro full n xs)) (k : G Γ ((t, .ro false n xs) :: E) H X) : G Γ E H X := fun R a W hs ha =>
 k R a W hs (ha.shadow (ha.slots t _ ht).unfull)

/-- The bool of a temporary, either way. -/
theorem G.split {X : Act → World → Prop} (t : Nat) {b : Bool} (ht : look E t = some (.val (.bool b))) (k1 : b = true → G Γ ((t, .val (.bool true)) :: E) H X) (k2 : b = false → G Γ ((t, .val (.bool false)) :: E) H X) : G Γ E H X := fun R a W hs ha => by
 have hv := (ha.slots t _ ht).val_inv
 cases b
 ·exact k2 rfl R a W hs (ha.shadow (by rw [hv]; exact .val _))
 ·exact k1 rfl R a W hs (ha.shadow (by rw [hv]; exact .val _))
def guardSlot (ops : Array Oper) (o : Oper) : Option Nat := match o.guard with | none => none | some (g, _) => (ops[g]?).bind (·.dst)
theorem AW.split {t : Nat} {b : Bool} {x y : Code} (ht : look E t = some (.val (.bool b))) (k1 : b = true → AW Γ P Q x E H) (k2 : b = false → AW Γ P Q y E H) : AW Γ P Q (.cond (.tmp t) x y) E H := AW.cond b ht k1 k2

theorem envNil {P : Nat × AV → Prop} : ∀ p ∈ ([] : Env), P p := fun _ h => by cases h
theorem envCons {t : Nat} {v : AV} {r : Env} (h : look E t = some v) (hr : ∀ p ∈ r, look E p.1 = some p.2) : ∀ p ∈ (t, v) :: r, look E p.1 = some p.2 := fun p hp => by
 rcases List.mem_cons.1 hp with rfl | hp
 ·exact h
 ·exact hr p hp

end
end Go.Proofs.YtoonnnifelnaiaaGreatDoor.A

namespace Go.Proofs.YtoonnnifelnaiaaGreatDoor.A
open Go.RowKit L
set_option linter.unusedVariables false
set_option maxRecDepth 20000
set_option linter.unusedSimpArgs false

abbrev Pr2 := (Nat → Nat) → (Nat → Nat) → Value → World → Prop

/-- What an operation waits for, itself included. -/
inductive Anc (ops : Array Oper) : Nat → Nat → Prop
 | self (i : Nat) : Anc ops i i
 | step (i j k : Nat) (o : Oper) (e : Edge) : ops[i]? = some o → e ∈ o.after → Region.binds .any e = true → e.on = j → Anc ops j k → Anc ops i k

def addAll (a : List Nat) : List Nat → List Nat
 | [] => a
 | x :: r => addAll (bif a.contains x then a else x :: a) r
theorem mem_addAll {x : Nat} : ∀ {b a : List Nat}, x ∈ addAll a b → x ∈ a ∨ x ∈ b
 | [], a, h => .inl h
 | y :: r, a, h => by
  unfold addAll at h
  rcases mem_addAll h with h | h
  ·cases hc : a.contains y with
   | true => rw [hc] at h; exact .inl h
   | false =>
    rw [hc] at h
    rcases List.mem_cons.1 h with rfl | h
    ·exact .inr (List.mem_cons_self ..)
    ·exact .inl h
  ·exact .inr (List.mem_cons_of_mem _ h)
def ancOf (acc : List (List Nat)) (o : Oper) : List Nat := o.after.toList.foldl (fun m e => bif Region.binds .any e then addAll (addAll m [e.on]) (acc.getD e.on []) else m) []
def ancs : List Oper → List (List Nat) → List (List Nat)
 | [], acc => acc
 | o :: r, acc => ancs r (acc ++ [ancOf acc o])

theorem mem_ancOf {acc : List (List Nat)} {o : Oper} {x : Nat} (h : x ∈ ancOf acc o) : ∃ e ∈ o.after, Region.binds .any e = true ∧ (x = e.on ∨ x ∈ acc.getD e.on []) := by
 unfold ancOf at h
 have key : ∀ (l : List Edge) (m : List Nat), x ∈ l.foldl (fun m e => bif Region.binds .any e then addAll (addAll m [e.on]) (acc.getD e.on []) else m) m → x ∈ m ∨ ∃ e ∈ l, Region.binds .any e = true ∧ (x = e.on ∨ x ∈ acc.getD e.on []) := by
  intro l
  induction l with
  | nil => intro m h; exact .inl h
  | cons e l ih =>
   intro m h
   rw [List.foldl_cons] at h
   rcases ih _ h with h | ⟨e', he, hh⟩
   ·cases hb : Region.binds .any e with
    | false => rw [hb] at h; exact .inl h
    | true =>
     rw [hb] at h
     rcases mem_addAll h with h | h
     ·rcases mem_addAll h with h | h
      ·exact .inl h
      ·exact .inr ⟨e, List.mem_cons_self .., hb, .inl (by simpa using h)⟩
     ·exact .inr ⟨e, List.mem_cons_self .., hb, .inr h⟩
   ·exact .inr ⟨e', List.mem_cons_of_mem _ he, hh⟩
 rcases key _ _ h with h | ⟨e, he, hh⟩
 ·cases h
 ·exact ⟨e, by simpa using he, hh⟩

theorem ancs_get : ∀ (l : List Oper) (acc : List (List Nat)) (i : Nat), (i < acc.length → (ancs l acc).getD i [] = acc.getD i []) ∧
  (∀ o, acc.length ≤ i → l[i - acc.length]? = some o → ∃ acc', acc'.length = i ∧ (∀ k, k < i → acc'.getD k [] = (ancs l acc).getD k []) ∧ (ancs l acc).getD i [] = ancOf acc' o)
 | [], acc, i => ⟨fun _ => rfl, fun o _ h => by simp at h⟩
 | o :: r, acc, i => by
  obtain ⟨h1, h2⟩ := ancs_get r (acc ++ [ancOf acc o]) i
  have hlen : (acc ++ [ancOf acc o]).length = acc.length + 1 := by simp
  refine ⟨fun hi => ?_, fun o' hi ho => ?_⟩
  ·rw [ancs, h1 (by rw [hlen]; omega)]
   simp [List.getD, List.getElem?_append, hi]
  ·by_cases he : i = acc.length
   ·subst he
    simp at ho
    subst ho
    refine ⟨acc, rfl, fun k hk => ?_, ?_⟩
    ·have := (ancs_get r (acc ++ [ancOf acc o]) k).1 (by rw [hlen]; omega)
     rw [ancs, this]; simp [List.getD, List.getElem?_append, hk]
    ·rw [ancs, h1 (by rw [hlen]; omega)]
     simp [List.getD]
   ·rw [ancs]
    exact h2 o' (by rw [hlen]; omega) (by rw [hlen]; rw [show i - acc.length = (i - (acc.length + 1)) + 1 by omega] at ho; simpa using ho)

def flowOkAt2 (ops : Array Oper) (an : List (List Nat)) (n i : Nat) (o : Oper) : Bool :=
 let waits := fun j => o.after.any fun e => Region.binds .any e && e.on == j
 (match o.op with | .select .. => false | _ => true) && (o.after.all fun e => !Region.binds .any e || decide (e.on < i)) &&
 if i < n then
  o.dst.isSome &&
  (List.range n).all (fun j => j == i || ((ops[j]?).all fun oj => (match oj.dst with | some d => o.dst != some d && (!(o.looksAt ops).contains d || (decide (j < i) && waits j)) | none => true)))
 else (List.range i).all fun j => (an.getD i []).contains j
def flowOk2 (ops : Array Oper) (n : Nat) : Bool := decide (n ≤ ops.size) && (List.range ops.size).all fun i => (ops[i]?).all fun o => flowOkAt2 ops (ancs ops.toList []) n i o

section
variable {P : Program} {ops : Array Oper} {Q : Exit → Act → World → Prop} {a : Act} {w0 : World}

theorem flowOk2_at {n : Nat} (h : flowOk2 ops n = true) {i : Nat} {o : Oper} (ho : ops[i]? = some o) : flowOkAt2 ops (ancs ops.toList []) n i o = true := by
 simp only [flowOk2, Bool.and_eq_true, List.all_eq_true, List.mem_range] at h
 have hi : i < ops.size := (Array.getElem?_eq_some_iff.1 ho).1
 have := h.2 i hi
 rw [ho] at this
 simpa using this
theorem flow2_back {an : List (List Nat)} {n i : Nat} {o : Oper} (h : flowOkAt2 ops an n i o = true) : ∀ e ∈ o.after, Region.binds .any e = true → e.on < i := by
 intro e he hb
 simp only [flowOkAt2, Bool.and_eq_true] at h
 have := Array.all_eq_true_iff_forall_mem.1 h.1.2 e he
 simpa [hb] using this
theorem flow2_pair {an : List (List Nat)} {n i j : Nat} {o oj : Oper} {d e : Tmp} (h : flowOkAt2 ops an n i o = true) (hi : i < n) (hj : j < n) (hne : j ≠ i) (ho : ops[j]? = some oj) (hd : oj.dst = some d) (he : o.dst = some e) :
  d ≠ e ∧ (d ∈ o.looksAt ops → j < i ∧ ∃ x ∈ o.after, Region.binds .any x = true ∧ x.on = j) := by
 simp only [flowOkAt2, Bool.and_eq_true, if_pos hi, List.all_eq_true, List.mem_range] at h
 have := h.2.2 j hj
 rw [ho] at this
 simp only [hd, he, Option.all_some, Bool.or_eq_true, beq_iff_eq, hne, false_or, Bool.and_eq_true, bne_iff_ne, ne_eq, Option.some.injEq, Bool.not_eq_true', List.contains_eq_mem, decide_eq_true_eq, decide_eq_false_iff_not] at this
 refine ⟨fun e' => this.1 e'.symm, fun hm => ?_⟩
 rcases this.2 with h1 | ⟨h1, h2⟩
 ·exact absurd hm h1
 ·obtain ⟨x, hx, hx2⟩ := any_mem h2
  simp only [Bool.and_eq_true, beq_iff_eq] at hx2
  exact ⟨h1, x, hx, hx2.1, hx2.2⟩

/-- Whoever has run has waited. -/
def Closed (ops : Array Oper) (listed : Array Bool) : Prop := ∀ i o, listed.getD i false = true → ops[i]? = some o → ∀ e ∈ o.after, Region.binds .any e = true → listed.getD e.on false = true

theorem anc_listed {listed : Array Bool} (hc : Closed ops listed) (hback : ∀ i o, ops[i]? = some o → ∀ e ∈ o.after, Region.binds .any e = true → e.on < i) : ∀ (i : Nat) (o : Oper), ops[i]? = some o → (∀ e ∈ o.after, Region.binds .any e = true → listed.getD e.on false = true) →
  ∀ j, j ∈ (ancs ops.toList []).getD i [] → listed.getD j false = true := by
 intro i
 induction i using Nat.strongRecOn with
 | _ i ih =>
  intro o ho hdeps j hj
  obtain ⟨acc', h1, h2, h3⟩ := (ancs_get ops.toList [] i).2 o (Nat.zero_le _) (by simpa using ho)
  rw [h3] at hj
  obtain ⟨e, he, hb, hx⟩ := mem_ancOf hj
  rcases hx with rfl | hx
  ·exact hdeps e he hb
  ·have hlt := hback i o ho e he hb
   rw [h2 _ hlt] at hx
   have hes : e.on < ops.size := by have := (Array.getElem?_eq_some_iff.1 ho).1; omega
   have hoe : ops[e.on]? = some ops[e.on] := by simp [hes]
   exact ih e.on hlt _ hoe (fun e' he' hb' => hc e.on _ (hdeps e he hb) hoe e' he' hb') j hx

theorem flow2_tail {n i : Nat} {o : Oper} (hok : flowOk2 ops n = true) (ho : ops[i]? = some o) (hi : n ≤ i) {listed : Array Bool} (hc : Closed ops listed) (hdeps : ∀ e ∈ o.after, Region.binds .any e = true → listed.getD e.on false = true) : ∀ j, j < i → listed.getD j false = true := by
 intro j hj
 have h := flowOk2_at hok ho
 simp only [flowOkAt2, Bool.and_eq_true, if_neg (show ¬ i < n by omega), List.all_eq_true, List.mem_range] at h
 have h2 := h.2 j hj
 exact anc_listed hc (fun i o ho e he hb => flow2_back (flowOk2_at hok ho) e he hb) i o ho hdeps j (by simpa using h2)

theorem closed_set {listed : Array Bool} (hc : Closed ops listed) {i : Nat} {o : Oper} (ho : ops[i]? = some o) (hi : i < listed.size) (hdeps : ∀ e ∈ o.after, Region.binds .any e = true → listed.getD e.on false = true) : Closed ops (listed.setIfInBounds i true) := by
 have up : ∀ k, listed.getD k false = true → (listed.setIfInBounds i true).getD k false = true := fun k hk => by
  by_cases e : k = i
  ·subst e; simp [Array.getD, hi]
  ·rw [getD_set_ne false (Ne.symm e)]; exact hk
 intro k ok hk hok e he hb
 by_cases ek : k = i
 ·subst ek
  rw [ho] at hok
  cases hok
  exact up _ (hdeps e he hb)
 ·rw [getD_set_ne false (Ne.symm ek)] at hk
  exact up _ (hc k ok hk hok e he hb)

theorem wpAny_tail2 {n : Nat} (hok : flowOk2 ops n = true) : ∀ (fuel m : Nat) (listed : Array Bool) (A : Act) (W : World), m + fuel = ops.size → n ≤ m → listed.size = ops.size → Closed ops listed →
  (∀ i, i < ops.size → listed.getD i false = decide (i < m)) → wpList P ops Q (ops.toList.drop m) A W → wpAny P .any ops Q fuel listed A W := by
 intro fuel
 induction fuel with
 | zero =>
  intro m listed A W hm hn hs hcl hl h
  have hd : ops.toList.drop m = [] := List.drop_eq_nil_of_le (by simp; omega)
  rw [hd] at h
  refine ⟨?_, h⟩
  rw [List.eq_nil_iff_forall_not_mem]
  intro i hi
  obtain ⟨h0, o, ho, _⟩ := mem_ready.1 hi
  have hi' : i < ops.size := (Array.getElem?_eq_some_iff.1 ho).1
  have := hl i hi'
  have hi2 : i < listed.size := by omega
  simp [Array.getD, hi2] at h0 this
  rw [h0] at this
  simp at this
  omega
 | succ fuel ih =>
  intro m listed A W hm hn hs hcl hl h
  have hlt : m < ops.size := by omega
  have hd : ops.toList.drop m = ops[m] :: ops.toList.drop (m + 1) := by
   rw [List.drop_eq_getElem_cons (by simpa using hlt)]; simp
  rw [hd] at h
  have hom : ops[m]? = some ops[m] := by simp [hlt]
  have hsz : m < listed.size := by omega
  have hdm : ∀ e ∈ ops[m].after, Region.binds .any e = true → listed.getD e.on false = true := fun e he hb => by
   have h1 := flow2_back (flowOk2_at hok hom) e he hb
   have := hl e.on (by omega)
   rw [this]; simpa using h1
  have hmr : m ∈ Region.ready .any ops listed := mem_ready.2 ⟨by
    have := hl m hlt
    simp [Array.getD, hsz] at this ⊢
    exact this, ops[m], hom, hdm⟩
  refine ⟨fun e => (by rw [e] at hmr; cases hmr), fun i hi => ?_⟩
  have him : i = m := by
   obtain ⟨h0, o, ho, hall⟩ := mem_ready.1 hi
   have hi' : i < ops.size := (Array.getElem?_eq_some_iff.1 ho).1
   have hi2 : i < listed.size := by omega
   have hge : m ≤ i := by
    have := hl i hi'
    simp [Array.getD, hi2] at h0 this
    rw [h0] at this
    simpa using this
   rcases Nat.eq_or_lt_of_le hge with e | hgt
   ·exact e.symm
   ·have := flow2_tail hok ho (by omega) hcl hall m hgt
    rw [hl m hlt] at this
    simp at this
  subst him
  unfold wpOp
  rw [hom]
  have hK : ∀ A' W', wpList P ops Q (ops.toList.drop (i + 1)) A' W' → wpAny P .any ops Q fuel (listed.setIfInBounds i true) A' W' := fun A' W' h' =>
   ih (i + 1) _ A' W' (by omega) (by omega) (by simpa using hs) (closed_set hcl hom hsz hdm) (fun j hj => by
    by_cases hji : j = i
    ·subst hji; simp [Array.getD, hsz]
    ·rw [getD_set_ne false (Ne.symm hji), hl j hj]
     simp; omega) h'
  simp only [wpList] at h ⊢
  split
  ·rename_i hw; rw [if_pos hw] at h; exact h.imp (Oper.wp_mono hK) id
  ·rename_i hw; rw [if_neg hw] at h; exact hK _ _ h

def Good (w0 : World) (Φ : Nat → Pr2) (W : World) (lo hi : Nat → Nat) (i : Nat) (v : Value) : Prop := w0.heap.size ≤ lo i ∧ lo i ≤ hi i ∧ hi i ≤ W.heap.size ∧ Φ i lo hi v W

structure FInv2 (ops : Array Oper) (w0 : World) (a : Act) (n : Nat) (Φ : Nat → Pr2) (D : Nat → Tmp) (listed : Array Bool) (A : Act) (W : World) : Prop where
 size : listed.size = ops.size
 late : ∀ i, n ≤ i → listed.getD i false = false
 closed : Closed ops listed
 ext : Ext w0 W
 tmps : A.tmps.size = a.tmps.size
 defers : A.defers = a.defers
 has : ∃ lo hi : Nat → Nat, (∀ i, i < n → listed.getD i false = true → Good w0 Φ W lo hi i (A.eval (.tmp (D i)))) ∧ ∀ i j, i < n → j < n → i ≠ j → listed.getD i false = true → listed.getD j false = true → hi i ≤ lo j ∨ hi j ≤ lo i
 out : ∀ t, (∀ i, i < n → listed.getD i false = true → D i ≠ t) → A.eval (.tmp t) = a.eval (.tmp t)

theorem anc_closed {listed : Array Bool} (hc : Closed ops listed) {j k : Nat} (h : Anc ops j k) : listed.getD j false = true → listed.getD k false = true := by
 induction h with
 | self i => exact id
 | step i j k o e ho he hb hj _ ih => exact fun hl => ih (hj ▸ hc i o hl ho e he hb)
theorem anc_le (hback : ∀ i o, ops[i]? = some o → ∀ e ∈ o.after, Region.binds .any e = true → e.on < i) {j k : Nat} (h : Anc ops j k) : k ≤ j := by
 induction h with
 | self i => exact Nat.le_refl _
 | step i j k o e ho he hb hj _ ih => have := hback i o ho e he hb; omega

def FlowAll2 (P : Program) (ops : Array Oper) (w0 : World) (a : Act) (n : Nat) (Φ : Nat → Pr2) (D : Nat → Tmp) : Prop :=
 ∀ i, i < n → ∀ o, ops[i]? = some o → o.dst = some (D i) ∧ (∀ lo hi v W W', (∀ k, Anc ops i k → hi k ≤ W.heap.size) → Φ i lo hi v W → Ext W W' → Φ i lo hi v W') ∧
  (∀ lo hi lo' hi' v W, (∀ k, Anc ops i k → lo' k = lo k ∧ hi' k = hi k) → Φ i lo hi v W → Φ i lo' hi' v W) ∧
  ∀ A W (lo hi : Nat → Nat), Ext w0 W → A.tmps.size = a.tmps.size → A.defers = a.defers → (∀ j, j < i → D j ∈ o.looksAt ops → Anc ops i j ∧ Good w0 Φ W lo hi j (A.eval (.tmp (D j))) ∧ ∀ k, Anc ops j k → w0.heap.size ≤ lo k ∧ hi k ≤ W.heap.size) → (∀ t ∈ o.looksAt ops, (∀ j, j < i → D j ≠ t) → A.eval (.tmp t) = a.eval (.tmp t)) →
   FStep P ops o A W (fun v W' => Ext W W' ∧ ∀ lo' hi' : Nat → Nat, lo' i = W.heap.size → hi' i = W'.heap.size → (∀ k, k ≠ i → lo' k = lo k ∧ hi' k = hi k) → Φ i lo' hi' v W')

theorem wpAny_flow2 {n : Nat} {Φ : Nat → Pr2} {D : Nat → Tmp} (hok : flowOk2 ops n = true) (hn : n ≤ ops.size) (hD : ∀ i, i < n → D i < a.tmps.size) (hall : FlowAll2 P ops w0 a n Φ D)
  (hend : ∀ A W (lo hi : Nat → Nat), Ext w0 W → A.tmps.size = a.tmps.size → A.defers = a.defers → (∀ i, i < n → Good w0 Φ W lo hi i (A.eval (.tmp (D i)))) → (∀ i j, i < n → j < n → i ≠ j → hi i ≤ lo j ∨ hi j ≤ lo i) →
   (∀ t, (∀ i, i < n → D i ≠ t) → A.eval (.tmp t) = a.eval (.tmp t)) → wpList P ops Q (ops.toList.drop n) A W) :
  ∀ (fuel : Nat) (listed : Array Bool) (A : Act) (W : World), fuel = listed.toList.count false → FInv2 ops w0 a n Φ D listed A W → wpAny P .any ops Q fuel listed A W := by
 intro fuel
 induction fuel with
 | zero =>
  intro listed A W hc hI
  have hlt : ∀ i, i < ops.size → listed.getD i false = true := by
   intro i hi
   have hi' : i < listed.size := by rw [hI.size]; exact hi
   cases hb : listed.getD i false with
   | true => rfl
   | false =>
    exfalso
    have hm : false ∈ listed.toList := by
     rw [← hb]; simp [Array.getD, hi']
    have := List.count_pos_iff.2 hm
    omega
  have hnn : n = ops.size := by
   rcases Nat.lt_or_ge n ops.size with h | h
   ·have := hI.late n (Nat.le_refl _); rw [hlt n h] at this; cases this
   ·omega
  obtain ⟨lo, hi, h1, h2⟩ := hI.has
  have hw := hend A W lo hi hI.ext hI.tmps hI.defers (fun i hi => h1 i hi (hlt i (by omega))) (fun i j hi hj hne => h2 i j hi hj hne (hlt i (by omega)) (hlt j (by omega))) (fun t ht => hI.out t fun i hi _ => ht i hi)
  exact wpAny_tail2 hok 0 n listed A W (by omega) (Nat.le_refl _) hI.size hI.closed (fun i hi => by rw [hlt i hi]; simp; omega) hw
 | succ fuel ih =>
  intro listed A W hc hI
  obtain ⟨lo, hi', hh1, hh2⟩ := hI.has
  by_cases hdone : ∀ i, i < n → listed.getD i false = true
  ·have hw := hend A W lo hi' hI.ext hI.tmps hI.defers (fun i hi => hh1 i hi (hdone i hi)) (fun i j hi hj hne => hh2 i j hi hj hne (hdone i hi) (hdone j hj)) (fun t ht => hI.out t fun i hi _ => ht i hi)
   refine wpAny_tail2 hok (fuel + 1) n listed A W ?_ (Nat.le_refl _) hI.size hI.closed (fun i hi => ?_) hw
   ·have hl : listed.toList = List.replicate n true ++ List.replicate (ops.size - n) false := by
     apply List.ext_getElem
     ·simp [hI.size]; omega
     ·intro i h1 h2
      have h1' : i < listed.size := by simpa using h1
      have e : listed.toList[i] = listed.getD i false := by simp [Array.getD, h1']
      rw [e]
      by_cases hin : i < n
      ·rw [hdone i hin, List.getElem_append_left (by simpa using hin)]; simp
      ·rw [hI.late i (by omega), List.getElem_append_right (by simp; omega)]; simp
    rw [hl, List.count_append] at hc
    simp [List.count_replicate] at hc
    omega
   ·by_cases hin : i < n
    ·rw [hdone i hin]; simp [hin]
    ·rw [hI.late i (by omega)]; simp [hin]
  ·have hne : ∃ i, i ∈ Region.ready .any ops listed := by
    have hex : ∃ i, i < n ∧ listed.getD i false = false := by
     refine Classical.byContradiction fun hno => hdone fun i hi => ?_
     cases hb : listed.getD i false with
     | true => rfl
     | false => exact absurd ⟨i, hi, hb⟩ hno
    obtain ⟨i, ⟨hi, hf⟩, hmin⟩ : ∃ i, (i < n ∧ listed.getD i false = false) ∧ ∀ j, j < i → ¬ (j < n ∧ listed.getD j false = false) := by
     obtain ⟨i, h⟩ := hex
     exact least ⟨i, h⟩
    have hio : ops[i]? = some ops[i] := by simp [show i < ops.size by omega]
    refine ⟨i, mem_ready.2 ⟨by rw [getD_tf (by rw [hI.size]; omega)]; exact hf, _, hio, fun e he hb => ?_⟩⟩
    have := flow2_back (flowOk2_at hok hio) e he hb
    cases hb2 : listed.getD e.on false with
    | true => rfl
    | false => exact absurd ⟨by omega, hb2⟩ (hmin e.on this)
   refine ⟨fun e => (by obtain ⟨i, hi⟩ := hne; rw [e] at hi; cases hi), fun i hi => ?_⟩
   obtain ⟨h0, o, ho, hdeps⟩ := mem_ready.1 hi
   have hio : i < ops.size := (Array.getElem?_eq_some_iff.1 ho).1
   have hf : listed.getD i false = false := by rw [← getD_tf (by rw [hI.size]; exact hio)]; exact h0
   have hin : i < n := by
    refine Classical.byContradiction fun hge => hdone fun j hj => ?_
    exact flow2_tail hok ho (by omega) hI.closed hdeps j (by omega)
   obtain ⟨hdst, hst, hloc, hstep⟩ := hall i hin o ho
   have hback : ∀ i o, ops[i]? = some o → ∀ e ∈ o.after, Region.binds .any e = true → e.on < i := fun i o ho e he hb => flow2_back (flowOk2_at hok ho) e he hb
   have hanc : ∀ j k, j < n → listed.getD j false = true → Anc ops j k → k < n ∧ listed.getD k false = true := fun j k hj hl h => ⟨by have := anc_le hback h; omega, anc_closed hI.closed h hl⟩
   have hpair : ∀ j, j < n → j ≠ i → D j ≠ D i ∧ (D j ∈ o.looksAt ops → j < i ∧ listed.getD j false = true) := by
    intro j hj hji
    have hoj : ops[j]? = some ops[j] := by simp [show j < ops.size by omega]
    obtain ⟨h1, h2⟩ := flow2_pair (flowOk2_at hok ho) hin hj hji hoj (hall j hj _ hoj).1 hdst
    refine ⟨h1, fun hm => ?_⟩
    obtain ⟨h3, x, hx, hxb, hxo⟩ := h2 hm
    exact ⟨h3, by rw [← hxo]; exact hdeps x hx hxb⟩
   have hdir : ∀ j, j < n → j ≠ i → D j ∈ o.looksAt ops → Anc ops i j := fun j hj hji hm => by
    have hoj : ops[j]? = some ops[j] := by simp [show j < ops.size by omega]
    obtain ⟨h3, x, hx, hxb, hxo⟩ := (flow2_pair (flowOk2_at hok ho) hin hj hji hoj (hall j hj _ hoj).1 hdst).2 hm
    exact .step i j j o x ho hx hxb hxo (.self j)
   have hs := hstep A W lo hi' hI.ext hI.tmps hI.defers (fun j hj hm => by
    have hl := ((hpair j (by omega) (by omega)).2 hm).2
    refine ⟨hdir j (by omega) (by omega) hm, hh1 j (by omega) hl, fun k hk => ?_⟩
    obtain ⟨h5, h6⟩ := hanc j k (by omega) hl hk
    obtain ⟨g1, g2, g3, g4⟩ := hh1 k h5 h6
    exact ⟨g1, g3⟩) (fun t ht htd => hI.out t fun j hj hlj e => by
    subst e
    by_cases hji : j = i
    ·subst hji; rw [hf] at hlj; cases hlj
    ·exact htd j ((hpair j hj hji).2 ht).1 rfl)
   have hnext : ∀ v W', (Ext W W' ∧ ∀ lo2 hi2 : Nat → Nat, lo2 i = W.heap.size → hi2 i = W'.heap.size → (∀ k, k ≠ i → lo2 k = lo k ∧ hi2 k = hi' k) → Φ i lo2 hi2 v W') → wpAny P .any ops Q fuel (listed.setIfInBounds i true) (A.put o.dst v) W' := by
    intro v W' ⟨hE, hφ⟩
    have hil : i < listed.size := by rw [hI.size]; exact hio
    have hDi : D i < A.tmps.size := by rw [hI.tmps]; exact hD i hin
    refine ih _ _ _ ?_ ⟨by simpa using hI.size, ?_, closed_set hI.closed ho hil hdeps, hI.ext.trans hE, ?_, ?_, ⟨fun k => if k = i then W.heap.size else lo k, fun k => if k = i then W'.heap.size else hi' k, ?_, ?_⟩, ?_⟩
    ·have hcs := count_set_true listed.toList i (by simpa using hil) (by simpa [Array.getD, hil] using hf)
     simp only [Array.toList_setIfInBounds]
     omega
    ·intro j hj
     rw [getD_set_ne false (show i ≠ j by omega)]; exact hI.late j hj
    ·rw [hdst]; simp [Act.put, hI.tmps]
    ·rw [hdst]; simp [Act.put, hI.defers]
    ·intro j hj hlj
     rw [hdst]
     by_cases hji : j = i
     ·subst hji; rw [eval_put_same hDi]
      refine ⟨?_, ?_, ?_, ?_⟩
      ·simp; exact hI.ext.size
      ·simp; exact hE.size
      ·simp
      ·exact hφ _ _ (by simp) (by simp) (fun k hk => by simp [hk])
     ·rw [getD_set_ne false (Ne.symm hji)] at hlj
      rw [eval_put_other (Ne.symm (hpair j hj hji).1)]
      have hoj : ops[j]? = some ops[j] := by simp [show j < ops.size by omega]
      obtain ⟨g1, g2, g3, g4⟩ := hh1 j hj hlj
      refine ⟨by simp [hji]; exact g1, by simp [hji]; exact g2, by simp [hji]; exact Nat.le_trans g3 hE.size, ?_⟩
      obtain ⟨-, hst2, hloc2, -⟩ := hall j hj _ hoj
      refine hloc2 lo hi' _ _ _ _ (fun k hk => ?_) (hst2 _ _ _ _ _ (fun k hk => (hh1 k (hanc j k hj hlj hk).1 (hanc j k hj hlj hk).2).2.2.1) g4 hE)
      have hki : k ≠ i := fun e => by
       have := (hanc j k hj hlj hk).2
       rw [e, hf] at this; cases this
      simp [hki]
    ·intro j k hj hk hjk hlj hlk
     by_cases hji : j = i
     ·subst hji
      have hki : k ≠ j := Ne.symm hjk
      rw [getD_set_ne false hjk] at hlk
      obtain ⟨g1, g2, g3, g4⟩ := hh1 k hk hlk
      right; simp [hki]; exact g3
     ·rw [getD_set_ne false (Ne.symm hji)] at hlj
      by_cases hki : k = i
      ·subst hki
       obtain ⟨g1, g2, g3, g4⟩ := hh1 j hj hlj
       left; simp [hji]; exact g3
      ·rw [getD_set_ne false (Ne.symm hki)] at hlk
       simp [hji, hki]; exact hh2 j k hj hk hjk hlj hlk
    ·intro t ht
     rw [hdst]
     have hti : D i ≠ t := ht i hin (by simp [Array.getD, hil])
     rw [eval_put_other hti]
     refine hI.out t fun j hj hlj => ht j hj ?_
     by_cases hji : j = i
     ·subst hji; simp [Array.getD, hil]
     ·rw [getD_set_ne false (Ne.symm hji)]; exact hlj
   unfold wpOp
   rw [ho]
   unfold FStep at hs
   show if Region.wanted o (yielded ops A.tmps) = true then _ else _
   split
   ·rename_i hw
    rw [if_pos hw] at hs
    refine .inl (Oper.wp_mono ?_ (wp_of_noQ hs))
    rintro A' W' ⟨v, rfl, hp⟩
    exact hnext v W' hp
   ·rename_i hw
    rw [if_neg hw] at hs
    exact hnext _ _ hs

end
end Go.Proofs.YtoonnnifelnaiaaGreatDoor.A
