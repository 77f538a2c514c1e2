/-
  Small lemmas on worlds, slices and numbers, over any program: which blocks a call may change, and slices that read as a list of cells.
-/
import Derived.Test.YtiddmpmpjdnmeaaRows
import Derived.WalkKit
import Derived.ProofKit
import Derived.OpenShut
import Derived.JoinedCond
import Derived.WalkLawsBesides
import Derived.WalkSpells
import Derived.Handy
import Derived.Lib.Hide
import Derived.Deep.QuietTactic
import Derived.BigQuiet
import Derived.Deep.RegionHeld3
import Derived.Deep.DeepCutAuto
import Derived.Deep.DeepFit
import Derived.Maps.AppendAt
namespace Go.Proofs.Ytiddmpmpjdnmeaa.L
open Go.RowKit
set_option linter.unusedVariables false

/-- Of the blocks that were there, only those of which S holds may differ. -/
structure Mods (S : Nat → Prop) (w w' : World) : Prop where
  os : w'.os = w.os
  tape : w'.tape = w.tape
  output : w'.output = w.output
  size : w.heap.size ≤ w'.heap.size
  block : ∀ k, k < w.heap.size → ¬ S k → w'.heap[k]? = w.heap[k]?

theorem Mods.refl (S : Nat → Prop) (w : World) : Mods S w w := ⟨rfl, rfl, rfl, Nat.le_refl _, fun _ _ _ => rfl⟩

theorem Mods.trans {S : Nat → Prop} {a b c : World} (h : Mods S a b) (k : Mods S b c) : Mods S a c :=
  ⟨k.os.trans h.os, k.tape.trans h.tape, k.output.trans h.output, Nat.le_trans h.size k.size, fun i hi hs => (k.block i (Nat.lt_of_lt_of_le hi h.size) hs).trans (h.block i hi hs)⟩

theorem Mods.mono {S T : Nat → Prop} {w w' : World} (h : Mods S w w') (hs : ∀ k, k < w.heap.size → S k → T k) : Mods T w w' :=
  ⟨h.os, h.tape, h.output, h.size, fun k hk ht => h.block k hk (fun hh => ht (hs k hk hh))⟩

/-- A second step may change, besides, blocks that came with the first. -/
theorem Mods.then {S T : Nat → Prop} {a b c : World} (h : Mods S a b) (k : Mods T b c) (hs : ∀ i, i < a.heap.size → T i → S i) : Mods S a c :=
  ⟨k.os.trans h.os, k.tape.trans h.tape, k.output.trans h.output, Nat.le_trans h.size k.size,
    fun i hi hn => (k.block i (Nat.lt_of_lt_of_le hi h.size) (fun ht => hn (hs i hi ht))).trans (h.block i hi hn)⟩

theorem Mods.drew {S : Nat → Prop} {a w : World} (h : Mods S a w) : Mods S a w.drew := ⟨h.os, h.tape, h.output, h.size, h.block⟩
theorem Mods.drewN {S : Nat → Prop} {a w : World} (h : Mods S a w) (n : Nat) : Mods S a (w.drewN n) := ⟨h.os, h.tape, h.output, h.size, h.block⟩

theorem Mods.alloc {S : Nat → Prop} {a w : World} (h : Mods S a w) (o : Obj) : Mods S a (w.alloc o) :=
  ⟨h.os, h.tape, h.output, Nat.le_trans h.size (by simp), fun k hk hs => (Below.heap_alloc w o k (Nat.lt_of_lt_of_le hk h.size)).trans (h.block k hk hs)⟩

theorem Mods.setCell {S : Nat → Prop} {a w : World} (h : Mods S a w) {p : Addr} (hp : p.block < a.heap.size → S p.block) (u : Value) : Mods S a (w.setCell p u) :=
  ⟨h.os, h.tape, h.output, by simpa using h.size, fun k hk hs => (Below.heap_setCell w p u k (fun e => hs (e ▸ hp (e ▸ hk)))).trans (h.block k hk hs)⟩

theorem Mods.grown {S : Nat → Prop} {a w w' : World} {row : Option Nat} (h : Mods S a w) (hg : w.grownBy w' row) (hr : ∀ k, row = some k → k < a.heap.size → S k) : Mods S a w' :=
  ⟨hg.os.trans h.os, hg.tape.trans h.tape, hg.output.trans h.output, Nat.le_trans h.size hg.size,
    fun k hk hs => (hg.block k (Nat.lt_of_lt_of_le hk h.size) (fun e => hs (hr k e.symm hk))).trans (h.block k hk hs)⟩

theorem Mods.below {S : Nat → Prop} {a w w' : World} {B : Nat} (h : Mods S a w) (hb : Below B w w') (hB : ∀ k, k < a.heap.size → ¬ S k → k < B) : Mods S a w' :=
  ⟨hb.os.trans h.os, hb.tape.trans h.tape, hb.output.trans h.output, Nat.le_trans h.size hb.size,
    fun k hk hs => (hb.block k (hB k hk hs)).trans (h.block k hk hs)⟩

theorem Mods.toBelow {S : Nat → Prop} {w w' : World} {B : Nat} (h : Mods S w w') (hB : B ≤ w.heap.size) (hS : ∀ k, S k → B ≤ k) : Below B w w' :=
  ⟨h.os, h.tape, h.output, h.size, fun k hk => h.block k (Nat.lt_of_lt_of_le hk hB) (fun hs => by have := hS k hs; omega)⟩

/-- Nothing that was there differs. -/
abbrev Ext (w w' : World) : Prop := Mods (fun _ => False) w w'

theorem Ext.any {S : Nat → Prop} {w w' : World} (h : Ext w w') : Mods S w w' := h.mono (fun _ _ hh => hh.elim)
theorem Ext.toBelow {w w' : World} (h : Ext w w') : Below w.heap.size w w' := Mods.toBelow h (Nat.le_refl _) (fun _ hh => hh.elim)

theorem Mods.cell {S : Nat → Prop} {w w' : World} (h : Mods S w w') {p : Addr} (hp : p.block < w.heap.size) (hs : ¬ S p.block) : w'.cell? p = w.cell? p :=
  World.cell?_of_block (w := w) (h.block p.block hp hs)
theorem Mods.frozen {S : Nat → Prop} {w w' : World} (h : Mods S w w') {p : Addr} (hp : p.block < w.heap.size) (hs : ¬ S p.block) : w'.frozen? p = w.frozen? p :=
  World.frozen?_of_block (w := w) (h.block p.block hp hs)

/-- What the walk needs behind a call that leaves all that was there as it was. -/
theorem Ext.cells {w w' : World} (h : Ext w w') : (∀ b o, b < w.heap.size → w'.cell? ⟨b, o, none⟩ = w.cell? ⟨b, o, none⟩) ∧ (∀ b o, b < w.heap.size → w'.frozen? ⟨b, o, none⟩ = w.frozen? ⟨b, o, none⟩) ∧ w.heap.size ≤ w'.heap.size :=
  ⟨fun b o hb => h.cell (p := ⟨b, o, none⟩) hb (fun hh => hh), fun b o hb => h.frozen (p := ⟨b, o, none⟩) hb (fun hh => hh), h.size⟩

/-- The cells from an address on are these. -/
def rowAt (w : World) (b off : Nat) (xs : List Value) : Prop := ∀ j, j < xs.length → w.cell? ⟨b, off + j, none⟩ = xs[j]?

/-- A slice of n elements that reads as these cells, in blocks of which F holds. -/
def reads (F : Nat → Prop) (w : World) (v : Value) (n : Nat) (xs : List Value) : Prop :=
  ∃ a cap, v = .slice a n cap ∧ n ≤ cap ∧ cap ≤ maxLen ∧ (xs = [] ∨ ∃ b off, a = some ⟨b, off, none⟩ ∧ F b ∧ rowAt w b off xs)

theorem rowAt.lt {w : World} {b off : Nat} {xs : List Value} (h : rowAt w b off xs) (hx : xs ≠ []) : b < w.heap.size := by
  have h0 := h 0 (by cases xs <;> simp_all)
  cases xs with
  | nil => exact absurd rfl hx
  | cons x r => exact World.block_lt_of_cell? w ⟨b, off + 0, none⟩ (u := x) (by simpa using h0)

theorem rowAt.mods {S : Nat → Prop} {w w' : World} {b off : Nat} {xs : List Value} (h : rowAt w b off xs) (hm : Mods S w w') (hs : ¬ S b) : rowAt w' b off xs := fun j hj => by
  rw [hm.cell (p := ⟨b, off + j, none⟩) (h.lt (by intro e; simp [e] at hj)) hs]; exact h j hj

theorem reads.mods {F S : Nat → Prop} {w w' : World} {v : Value} {n : Nat} {xs : List Value} (h : reads F w v n xs) (hm : Mods S w w') (hs : ∀ b, F b → ¬ S b) : reads F w' v n xs := by
  obtain ⟨a, cap, hv, h1, h2, h3⟩ := h
  refine ⟨a, cap, hv, h1, h2, h3.imp id ?_⟩
  rintro ⟨b, off, ha, hF, hr⟩
  exact ⟨b, off, ha, hF, hr.mods hm (hs b hF)⟩

theorem reads.ext {F : Nat → Prop} {w w' : World} {v : Value} {n : Nat} {xs : List Value} (h : reads F w v n xs) (hm : Ext w w') : reads F w' v n xs :=
  h.mods hm (fun _ _ hh => hh)

theorem reads.imp {F G : Nat → Prop} {w : World} {v : Value} {n : Nat} {xs : List Value} (h : reads F w v n xs) (hs : ∀ b, b < w.heap.size → F b → G b) : reads G w v n xs := by
  obtain ⟨a, cap, hv, h1, h2, h3⟩ := h
  refine ⟨a, cap, hv, h1, h2, ?_⟩
  rcases h3 with h3 | ⟨b, off, ha, hF, hr⟩
  · exact .inl h3
  · by_cases hx : xs = []
    · exact .inl hx
    · exact .inr ⟨b, off, ha, hs b (hr.lt hx) hF, hr⟩

theorem reads_nil (F : Nat → Prop) (w : World) : reads F w (.slice none 0 0) 0 [] := ⟨none, 0, rfl, Nat.le_refl _, Nat.zero_le _, .inl rfl⟩

/-- An owned row reads as its cells. -/
theorem reads_of_owns {w : World} {base e size n : Nat} {v : Value} {xs : List Value} (h : w.ownsRow base e size v n xs) : reads (fun b => base ≤ b) w v n xs := by
  obtain ⟨hl, ⟨rfl, rfl⟩ | ⟨g, cap, cur, rfl, hg, hh, h1, h2, hs, hx⟩⟩ := h
  · have : xs = [] := by cases xs <;> simp_all
    subst this; exact reads_nil _ _
  · refine ⟨some ⟨g, 0, none⟩, cap, rfl, h1, h2, .inr ⟨g, 0, rfl, hg, fun j hj => ?_⟩⟩
    subst hx
    simp only [World.cell?, hh]
    have hj' : j < n * size := by simp at hj; omega
    have hj2 : j < cur.size := by simp at hj; omega
    simp [hj', hj2]

/-- The element that an index names (rows of one cell). -/
theorem reads.at {F : Nat → Prop} {w : World} {v : Value} {n : Nat} {xs : List Value} (h : reads F w v n xs) (hn : 0 < xs.length) :
    ∃ b off cap, v = .slice (some ⟨b, off, none⟩) n cap ∧ n ≤ cap ∧ cap ≤ maxLen ∧ F b ∧ b < w.heap.size ∧ ∀ j, j < xs.length → w.cell? ⟨b, off + j, none⟩ = xs[j]? := by
  obtain ⟨a, cap, hv, h1, h2, h3⟩ := h
  rcases h3 with h3 | ⟨b, off, rfl, hF, hr⟩
  · simp [h3] at hn
  · exact ⟨b, off, cap, hv, h1, h2, hF, hr.lt (by intro e; simp [e] at hn), hr⟩


theorem shl_big_u64 (x y : Int) (yk : IntKind) (h : 64 ≤ y) : Op.shift .shl .u64 x yk y = pure (.int .u64 0) := by
  have hm : min y.toNat (IntKind.u64.bits) = 64 := by simp [IntKind.bits]; omega
  have hn : ¬ y < 0 := by omega
  have hw : IntKind.u64.wrap (x * 2 ^ 64) = 0 := by rw [IntKind.wrap_u64]; exact Int.mul_emod_left _ _
  simp only [Op.shift, if_neg hn, hm, hw]

theorem shr_big_u64 (x y : Int) (yk : IntKind) (h : 64 ≤ y) (h0 : 0 ≤ x) (h1 : x < 18446744073709551616) : Op.shift .shr .u64 x yk y = pure (.int .u64 0) := by
  have hm : min y.toNat (IntKind.u64.bits) = 64 := by simp [IntKind.bits]; omega
  have hn : ¬ y < 0 := by omega
  have hw : x.fdiv (2 ^ 64) = 0 := by
    rw [Int.fdiv_eq_ediv_of_nonneg _ (by decide)]
    exact Int.ediv_eq_zero_of_lt h0 h1
  simp only [Op.shift, if_neg hn, hm, hw]

end Go.Proofs.Ytiddmpmpjdnmeaa.L
