/-
  How the arguments of a law read; from contracts over all readings to the law's statement.
-/
import Derived.Test.YtiddmpmpjdnmeaaLaw
namespace Go.Proofs.Ytiddmpmpjdnmeaa.A
open Go.ChangeShapes Go.WideShapes Go.ChangeAt Go.RowKit L
set_option linter.unusedVariables false
set_option linter.unusedSimpArgs false
section
variable {P : Program}

/-- Arguments of this type read as one of these. -/
def Reads (P : Program) (t : TypeId) (φ : AV → Prop) : Prop :=
  ∀ (H : Type) (enc : TypeId × Value → H) (W : World) (base b0 : Nat) (spare : Nat → Bool) (held : Bool) (v : Value) (d : DataW H) (p : List MemPlace),
    Value.okWide P W .any b0 t v → DataW.Trod enc P W base spare held t v d p → ∃ x, φ x ∧ RelV (Old W) W x v
/-- Cells of this type read as one of these. -/
structure RdC (P : Program) (t : TypeId) {α : Type} (f : α → List AV) (good : α → Prop) : Prop where
  len : ∀ a, (f a).length = P.cellsOf t
  rd : ∀ (H : Type) (enc : TypeId × Value → H) (W : World) (base : Nat) (spare : Nat → Bool) (held : Bool) (n : Nat) (cs : List Value) (x : DataW H × List MemPlace),
    DataW.trod enc P W base spare held n t cs = some x → ∃ a, good a ∧ RelL (Old W) W (f a) cs

theorem okw_int {W : World} {r : Reach} {b : Nat} {t : TypeId} {k : IntKind} (ht : P.underlying t = some (.int k)) {v : Value} (h : Value.okWide P W r b t v) : v.cells.toList = [v] := by
  cases v <;> simp [Value.okWide, ht, Cell.okWide, Cell.ok] at h <;> rfl
theorem okw_slice {W : World} {r : Reach} {b : Nat} {t e : TypeId} (ht : P.underlying t = some (.slice e)) {v : Value} (h : Value.okWide P W r b t v) : v.cells.toList = [v] := by
  cases v <;> simp [Value.okWide, ht, Cell.okWide, Cell.ok] at h <;> rfl
theorem okw_bool {W : World} {r : Reach} {b : Nat} {t : TypeId} (ht : P.underlying t = some .bool) {v : Value} (h : Value.okWide P W r b t v) : v.cells.toList = [v] := by
  cases v <;> simp [Value.okWide, ht, Cell.okWide, Cell.ok] at h <;> rfl
theorem okw_string {W : World} {r : Reach} {b : Nat} {t : TypeId} (ht : P.underlying t = some .string) {v : Value} (h : Value.okWide P W r b t v) : v.cells.toList = [v] := by
  cases v <;> simp [Value.okWide, ht, Cell.okWide, Cell.ok] at h <;> rfl

theorem RelL.glue {R : Nat → Prop} {W : World} {xs ys : List AV} {cs : List Value} {o k : Nat} (h1 : RelL R W xs ((cs.drop o).take k)) (h2 : RelL R W ys (cs.drop (o + k))) : RelL R W (xs ++ ys) (cs.drop o) := by
  have := h1.app h2
  rwa [show (cs.drop o).take k ++ cs.drop (o + k) = cs.drop o by rw [← List.drop_drop, List.take_append_drop]] at this
theorem RelL.glueEnd {R : Nat → Prop} {W : World} {xs : List AV} {cs : List Value} {o k : Nat} (h1 : RelL R W xs ((cs.drop o).take k)) (hl : cs.length = o + k) : RelL R W xs (cs.drop o) := by
  rwa [List.take_of_length_le (by rw [List.length_drop]; omega)] at h1

theorem RdC.int {t : TypeId} {k : IntKind} (ht : P.underlying t = some (.int k)) (h1 : P.cellsOf t = 1) : RdC P t (fun z : Int => [.val (.int k z)]) (fun z => (Lit.int k z).wf = true) :=
  ⟨fun _ => h1.symm, fun H enc W base spare held n cs x h => rd_int ht h⟩
theorem RdC.bool {t : TypeId} (ht : P.underlying t = some .bool) (h1 : P.cellsOf t = 1) : RdC P t (fun z : Bool => [.val (.bool z)]) (fun _ => True) :=
  ⟨fun _ => h1.symm, fun H enc W base spare held n cs x h => by
    obtain ⟨b, rfl, _⟩ := DataW.trod_bool ht h
    exact ⟨b, trivial, RelL.cons (.val _) RelL.nil⟩⟩
theorem RdC.string {t : TypeId} (ht : P.underlying t = some .string) (h1 : P.cellsOf t = 1) : RdC P t (fun s : ByteArray => [.val (.string s)]) (fun s => s.size ≤ maxLen) :=
  ⟨fun _ => h1.symm, fun H enc W base spare held n cs x h => by
    obtain ⟨b, rfl, _, hs⟩ := DataW.trod_string ht h
    exact ⟨b, hs, RelL.cons (.val _) RelL.nil⟩⟩
theorem RdC.slice {t e : TypeId} {α : Type} {f : α → List AV} {good : α → Prop} (ht : P.underlying t = some (.slice e)) (h1 : P.cellsOf t = 1) (hpos : 0 < P.cellsOf e) (h : RdC P e f good) :
    RdC P t (fun l : List α => [.ro false l.length (l.flatMap f)]) (fun l => (∀ a ∈ l, good a) ∧ l.length ≤ maxLen) :=
  ⟨fun _ => h1.symm, fun H enc W base spare held n cs x hx => by
    obtain ⟨l, h2, h3, h4⟩ := rd_slice ht h.len hpos (fun n cs x _ hx => h.rd H enc W base spare held n cs x hx) hx
    exact ⟨l, ⟨h2, h3⟩, h4⟩⟩
theorem RdC.bytes {t e : TypeId} (ht : P.underlying t = some (.slice e)) (he : P.underlying e = some (.int .u8)) (h1 : P.cellsOf t = 1) (h2 : P.cellsOf e = 1) : RdC P t (fun l : List UInt8 => [roB l]) (fun l => l.length ≤ maxLen) :=
  ⟨fun _ => h1.symm, fun H enc W base spare held n cs x hx => rd_bytes ht he h2 hx⟩
theorem RdC.ints {t e : TypeId} {k : IntKind} (ht : P.underlying t = some (.slice e)) (he : P.underlying e = some (.int k)) (h1 : P.cellsOf t = 1) (h2 : P.cellsOf e = 1) :
    RdC P t (fun l : List Int => [.ro false l.length (intsA k l)]) (fun l => (∀ z ∈ l, (Lit.int k z).wf = true) ∧ l.length ≤ maxLen) :=
  ⟨fun _ => h1.symm, fun H enc W base spare held n cs x hx => by
    obtain ⟨l, h3, h4, h5⟩ := rd_ints ht he h2 hx
    exact ⟨l, ⟨h3, h4⟩, h5⟩⟩
theorem RdC.array2 {t e : TypeId} {α : Type} {f : α → List AV} {good : α → Prop} (ht : P.underlying t = some (.array 2 e)) (h1 : P.cellsOf t = 2 * P.cellsOf e) (h : RdC P e f good) :
    RdC P t (fun p : α × α => f p.1 ++ f p.2) (fun p => good p.1 ∧ good p.2) :=
  ⟨fun p => by rw [List.length_append, h.len, h.len, h1]; omega, fun H enc W base spare held n cs x hx => by
    obtain ⟨xs, m, _, _, hl, hlen, hi⟩ := DataW.trod_array ht hx
    have h0 := hi 0 (by omega)
    have h2 := hi 1 (by omega)
    rw [List.getElem?_eq_getElem (by omega)] at h0 h2
    obtain ⟨a, g1, r1⟩ := h.rd _ _ _ _ _ _ _ _ _ h0
    obtain ⟨b, g2, r2⟩ := h.rd _ _ _ _ _ _ _ _ _ h2
    refine ⟨(a, b), ⟨g1, g2⟩, ?_⟩
    have := RelL.glue (o := 0) (by simpa using r1) (RelL.glueEnd (o := 0 + P.cellsOf e) (by simpa using r2) (by omega))
    simpa using this⟩

/-- Fields, one after the other, from cell o on. -/
structure FR (P : Program) (fs : List Field) (o m : Nat) {α : Type} (f : α → List AV) (good : α → Prop) : Prop where
  len : ∀ a, (f a).length = m
  rd : ∀ (H : Type) (enc : TypeId × Value → H) (W : World) (base : Nat) (spare : Nat → Bool) (held : Bool) (cs : List Value), cs.length = o + m →
    (∀ fd ∈ fs, ∃ (n : Nat) (y : DataW H × List MemPlace), DataW.trod enc P W base spare held n fd.type ((cs.drop fd.offset).take (P.cellsOf fd.type)) = some y) → ∃ a, good a ∧ RelL (Old W) W (f a) (cs.drop o)
theorem FR.nil {o : Nat} : FR P [] o 0 (fun _ : Unit => []) (fun _ => True) :=
  ⟨fun _ => rfl, fun H enc W base spare held cs hl _ => ⟨(), trivial, by rw [List.drop_of_length_le (by omega)]; exact RelL.nil⟩⟩
theorem FR.cons {fd : Field} {fs : List Field} {o k m : Nat} {α β : Type} {f : α → List AV} {good : α → Prop} {g : β → List AV} {good' : β → Prop} (h : RdC P fd.type f good) (ho : fd.offset = o) (hk : P.cellsOf fd.type = k) (hs : FR P fs (o + k) m g good') :
    FR P (fd :: fs) o (k + m) (fun p : α × β => f p.1 ++ g p.2) (fun p => good p.1 ∧ good' p.2) :=
  ⟨fun p => by rw [List.length_append, h.len, hs.len, hk], fun H enc W base spare held cs hl hall => by
    obtain ⟨n, y, h1⟩ := hall fd (List.mem_cons_self ..)
    rw [ho, hk] at h1
    obtain ⟨a, h2, h3⟩ := h.rd H enc W base spare held _ _ _ h1
    obtain ⟨b, h4, h5⟩ := hs.rd H enc W base spare held cs (by omega) (fun fd hfd => hall fd (List.mem_cons_of_mem _ hfd))
    exact ⟨(a, b), ⟨h2, h4⟩, RelL.glue h3 h5⟩⟩
theorem RdC.struct {t : TypeId} {fs : List Field} {m : Nat} {α : Type} {f : α → List AV} {good : α → Prop} (ht : P.underlying t = some (.struct fs.toArray)) (hm : P.cellsOf t = m) (h : FR P fs 0 m f good) : RdC P t f good :=
  ⟨fun a => by rw [h.len, hm], fun H enc W base spare held n cs x hx => by
    obtain ⟨xs, n', _, _, hl, hlen, hf⟩ := DataW.trod_struct ht hx
    obtain ⟨a, h1, h2⟩ := h.rd H enc W base spare held cs (by omega) (fun fd hfd => by
      obtain ⟨i, hi, rfl⟩ := List.getElem_of_mem hfd
      have h0 := hf i fs[i] (by simp [hi])
      have hxi : i < xs.length := by rw [hlen]; simpa using hi
      rw [List.getElem?_eq_getElem hxi] at h0
      exact ⟨n', _, h0⟩)
    exact ⟨a, h1, by simpa using h2⟩⟩
theorem RdC.map {t : TypeId} {α β : Type} {f : α → List AV} {good : α → Prop} {g : β → List AV} {good' : β → Prop} (h : RdC P t f good) (φ : α → β) (hφ : ∀ a, good a → good' (φ a) ∧ f a = g (φ a)) (hl : ∀ b, (g b).length = P.cellsOf t) : RdC P t g good' :=
  ⟨hl, fun H enc W base spare held n cs x hx => by
    obtain ⟨a, h1, h2⟩ := h.rd H enc W base spare held n cs x hx
    exact ⟨φ a, (hφ a h1).1, (hφ a h1).2 ▸ h2⟩⟩
theorem RdC.reads {t : TypeId} {α : Type} {f : α → List AV} {good : α → Prop} (h : RdC P t f good) (g : α → AV) (hg : ∀ a, f a = [g a]) (hw : ∀ (W : World) (b : Nat) (v : Value), Value.okWide P W .any b t v → v.cells.toList = [v]) : Reads P t (fun x => ∃ a, good a ∧ x = g a) :=
  fun H enc W base b0 spare held v d p hv ⟨n, hx⟩ => by
    obtain ⟨a, h1, h2⟩ := h.rd H enc W base spare held n _ _ hx
    rw [hg] at h2
    exact ⟨g a, ⟨a, h1, rfl⟩, relV_of_one (hw _ _ _ hv) h2⟩
theorem RdC.readsAgg {t : TypeId} {α : Type} {f : α → List AV} {good : α → Prop} (h : RdC P t f good) (hw : ∀ (W : World) (b : Nat) (v : Value), Value.okWide P W .any b t v → ∃ cs, v = .agg cs) : Reads P t (fun x => ∃ a, good a ∧ x = .agg (f a)) :=
  fun H enc W base b0 spare held v d p hv ⟨n, hx⟩ => by
    obtain ⟨cs, rfl⟩ := hw _ _ _ hv
    obtain ⟨a, h1, h2⟩ := h.rd H enc W base spare held n _ _ hx
    exact ⟨.agg (f a), ⟨a, h1, rfl⟩, relV_of_agg h2⟩
theorem Reads.int {t : TypeId} {k : IntKind} (ht : P.underlying t = some (.int k)) (h1 : P.cellsOf t = 1) : Reads P t (fun x => ∃ z : Int, (Lit.int k z).wf = true ∧ x = .val (.int k z)) := (RdC.int ht h1).reads (fun z => .val (.int k z)) (fun _ => rfl) (fun _ _ _ h => okw_int ht h)
theorem Reads.bool {t : TypeId} (ht : P.underlying t = some .bool) (h1 : P.cellsOf t = 1) : Reads P t (fun x => ∃ z : Bool, True ∧ x = .val (.bool z)) := (RdC.bool ht h1).reads (fun z => .val (.bool z)) (fun _ => rfl) (fun _ _ _ h => okw_bool ht h)
theorem Reads.bytes {t e : TypeId} (ht : P.underlying t = some (.slice e)) (he : P.underlying e = some (.int .u8)) (h1 : P.cellsOf t = 1) (h2 : P.cellsOf e = 1) : Reads P t (fun x => ∃ l : List UInt8, l.length ≤ maxLen ∧ x = roB l) := (RdC.bytes ht he h1 h2).reads roB (fun _ => rfl) (fun _ _ _ h => okw_slice ht h)
theorem Reads.ints {t e : TypeId} {k : IntKind} (ht : P.underlying t = some (.slice e)) (he : P.underlying e = some (.int k)) (h1 : P.cellsOf t = 1) (h2 : P.cellsOf e = 1) :
    Reads P t (fun x => ∃ l : List Int, ((∀ z ∈ l, (Lit.int k z).wf = true) ∧ l.length ≤ maxLen) ∧ x = .ro false l.length (intsA k l)) := (RdC.ints ht he h1 h2).reads (fun l => .ro false l.length (intsA k l)) (fun _ => rfl) (fun _ _ _ h => okw_slice ht h)
theorem Reads.slice {t e : TypeId} {α : Type} {f : α → List AV} {good : α → Prop} (ht : P.underlying t = some (.slice e)) (h1 : P.cellsOf t = 1) (hpos : 0 < P.cellsOf e) (h : RdC P e f good) :
    Reads P t (fun x => ∃ l : List α, ((∀ a ∈ l, good a) ∧ l.length ≤ maxLen) ∧ x = .ro false l.length (l.flatMap f)) := (RdC.slice ht h1 hpos h).reads (fun l => .ro false l.length (l.flatMap f)) (fun _ => rfl) (fun _ _ _ h => okw_slice ht h)

/-- All arguments. -/
def ReadsL (P : Program) : List TypeId → List (AV → Prop) → Prop
  | [], [] => True
  | t :: ts, φ :: φs => Reads P t φ ∧ ReadsL P ts φs
  | _, _ => False
theorem ReadsL.nil : ReadsL P [] [] := trivial
theorem ReadsL.cons {t : TypeId} {ts : List TypeId} {φ : AV → Prop} {φs : List (AV → Prop)} (h : Reads P t φ) (hs : ReadsL P ts φs) : ReadsL P (t :: ts) (φ :: φs) := ⟨h, hs⟩
def AllOf : List (AV → Prop) → (List AV → Prop) → Prop
  | [], K => K []
  | φ :: φs, K => ∀ x, φ x → AllOf φs (fun xs => K (x :: xs))

theorem readAll {H : Type} {enc : TypeId × Value → H} {W : World} {base b0 : Nat} {spare : Nat → Bool} {held : Bool} : ∀ {ts : List TypeId} {φs : List (AV → Prop)} {K : List AV → Prop} {vs : List Value} {ds : List (DataW H)} {ps : List MemPlace},
    ReadsL P ts φs → AllOf φs K → (∀ (j : Nat) t v, ts[j]? = some t → vs[j]? = some v → Value.okWide P W .any b0 t v) → DataW.TrodAll enc P W base spare held ts vs ds ps → ∃ xs, K xs ∧ RelL (Old W) W xs vs
  | [], [], K, vs, ds, ps, _, hK, _, hT => by
    obtain ⟨rfl, _, _⟩ := trodAll_nil hT
    exact ⟨[], hK, RelL.nil⟩
  | [], _ :: _, _, _, _, _, h, _, _, _ => h.elim
  | _ :: _, [], _, _, _, _, h, _, _, _ => h.elim
  | t :: ts, φ :: φs, K, vs, ds, ps, h, hK, hv, hT => by
    obtain ⟨v0, vs0, d0, ds0, p0, q0, rfl, rfl, rfl, h0, r0⟩ := trodAll_cons hT
    obtain ⟨x, h1, h2⟩ := h.1 H enc W base b0 spare held v0 d0 p0 (hv 0 t v0 rfl rfl) h0
    obtain ⟨xs, h3, h4⟩ := readAll h.2 (hK x h1) (fun j t v a b => hv (j + 1) t v a b) r0
    exact ⟨x :: xs, h3, RelL.cons h2 h4⟩
end

theorem law_contract {f : FuncId} {fn : Func} {s : ChangeSpec} {H : Type} (enc : TypeId × Value → H) {ts : List TypeId} {φs : List (AV → Prop)} (hp : fn.params.toList = ts) (hr : ReadsL Try.prog ts φs)
    (h : AllOf φs fun xs => Sp Try.prog f xs [] (Is (.val (.bool true)))) {W : World} {base : Nat} {args : Array Value} {ds gs : List (DataW H)} {before : List MemPlace}
    (hval : ∀ (j : Nat) t v, fn.params[j]? = some t → args[j]? = some v → Value.okWide Try.prog W .any base t v)
    (hW : DataW.Whole enc Try.prog fn.params.toList s.vars false W args.toList ds gs before)
    (post : ∀ W', Ext W W' → s.post enc Try.prog fn false true false false W args (.bool true) W') :
    Calls Try.prog f args W fun e W' => ∃ v, e = .returned v ∧ s.post enc Try.prog fn false true false false W args v W' := by
  obtain ⟨p, q, hA, hV, rfl, hfz, hnd⟩ := hW
  rw [hp] at hA
  obtain ⟨xs, hS, hR⟩ := readAll (b0 := base) hr h (fun j t v h1 h2 => hval j t v (by rw [← Array.getElem?_toList, hp]; exact h1) (by rw [← Array.getElem?_toList]; exact h2)) hA
  have hc := hS W (Old W) args.toList (fun b hb => hb) (fun e he => by cases he) .nil hR
  rw [Array.toArray_toList] at hc
  refine hc.mono ?_
  rintro e W' ⟨u, r, H', R', rfl, ⟨rfl, rfl⟩, hs, hv⟩
  obtain rfl := hv.val_inv
  exact ⟨_, rfl, post W' (hs.mods.mono fun b _ ⟨e, he, _⟩ => by cases he)⟩
end Go.Proofs.Ytiddmpmpjdnmeaa.A
