/-
  Over a symbolic state: bytes, slices of slices, nil, and other operations.
-/
import Derived.Test.YtiddmpmpjdnmeaaSh
import Derived.Laws.BytesArg
import Derived.Lib.SliceRun
namespace Go.Proofs.Ytiddmpmpjdnmeaa.A
open Go.RowKit L
set_option linter.unusedVariables false
set_option linter.unusedSimpArgs false

def bytesA (l : List UInt8) : List AV := l.map fun b => .val (.int .u8 (b.toNat : Int))
def roB (l : List UInt8) : AV := .ro false l.length (bytesA l)
def intsA (k : IntKind) (l : List Int) : List AV := l.map fun z => .val (.int k z)
def roI (l : List Int) : AV := .ro false l.length (intsA .i64 l)
@[simp] theorem bytesA_length (l : List UInt8) : (bytesA l).length = l.length := by simp [bytesA]
@[simp] theorem intsA_length (k : IntKind) (l : List Int) : (intsA k l).length = l.length := by simp [intsA]
@[simp] theorem bytesA_one (l : List UInt8) : (bytesA l).all AV.one = true := by simp [bytesA, AV.one, Value.oneCell']
@[simp] theorem intsA_one (k : IntKind) (l : List Int) : (intsA k l).all AV.one = true := by simp [intsA, AV.one, Value.oneCell']
theorem bytesA_get {l : List UInt8} {i : Nat} (h : i < l.length) : (bytesA l)[i]? = some (.val (.int .u8 (l[i].toNat : Int))) := by simp [bytesA, h]
theorem intsA_get {k : IntKind} {l : List Int} {i : Nat} (h : i < l.length) : (intsA k l)[i]? = some (.val (.int k l[i])) := by simp [intsA, h]
@[simp] theorem bytesA_app (l m : List UInt8) : bytesA (l ++ m) = bytesA l ++ bytesA m := by simp [bytesA]
@[simp] theorem intsA_app (k : IntKind) (l m : List Int) : intsA k (l ++ m) = intsA k l ++ intsA k m := by simp [intsA]

def strOf (l : List UInt8) : ByteArray := ⟨l.toArray⟩
theorem strOf_toList (l : List UInt8) : (strOf l).toList = l := by rw [ByteArray.toList_eq]; simp [strOf]

section
variable {Γ : Cx} {P : Program} {Q : Exit → Act → World → Prop} {E : Env} {H : List HE} {N : Nat} {o : Oper} {ops : Array Oper} {rest : List Oper}

theorem rel_bytes {R : Nat → Prop} {W : World} {l : List UInt8} {us : Nat → Value} (h : ∀ j (h : j < (bytesA l).length), RelV R W (bytesA l)[j] (us j)) : ∀ j (hj : j < l.length), us j = .int .u8 (l[j].toNat : Int) := fun j hj => by
  have := h j (by simpa using hj)
  simp only [bytesA, List.getElem_map] at this
  exact this.val_inv

theorem foldl_strOf (l : List UInt8) : (l.map fun b => ((b.toNat : Nat) : Int)).foldl (fun r n => r.push (UInt8.ofNat n.toNat)) ByteArray.empty = strOf l := by
  have key : ∀ (l : List UInt8) (r : ByteArray), ((l.map fun b => ((b.toNat : Nat) : Int)).foldl (fun r n => r.push (UInt8.ofNat n.toNat)) r).data = r.data ++ l.toArray := by
    intro l
    induction l with
    | nil => intro r; simp
    | cons b l ih =>
      intro r
      rw [List.map_cons, List.foldl_cons, ih]
      simp [ByteArray.push]
  have := key l ByteArray.empty
  cases h : (l.map fun b => ((b.toNat : Nat) : Int)).foldl (fun r n => r.push (UInt8.ofNat n.toNat)) ByteArray.empty with
  | mk d =>
    rw [h] at this
    simp at this
    simp [strOf, this]

/-- string(b) -/
theorem O.convS {S T U : Nat} {x : Operand} {full : Bool} {n : Nat} {xs : List AV} {l : List UInt8} [hS : TyD P S (.slice U)] [hU : TyD P U (.int .u8)] [hT : TyD P T .string] (ho : o.op = .convert S T x) (hx : ev E x = some (.ro full n xs)) (hl : AV.ro full n xs = .ro full l.length (bytesA l)) :
    OpW P N o E H (Is (.val (.string (strOf l)))) := .of_run fun R a W h1 h2 ha => by
  have hv := ha.ev hx
  rw [hl] at hv
  generalize hu : a.eval x = u at *
  refine ⟨.string (strOf l), ?_, .val _⟩
  generalize hn : l.length = n' at hv
  generalize hb : bytesA l = ys at hv
  cases hv with
  | emp _ ad cap h3 h4 =>
    have : l = [] := List.eq_nil_of_length_eq_zero hn
    subst this
    cases ad with
    | none => simp [execOp, ho, hu, convert, run_underlying hS.ax, run_underlying hT.ax, run_underlying hU.ax, Conv.bytesToString, strOf]; rfl
    | some ad =>
      simp only [execOp, ho, hu]
      rw [Sem.run_bind, run_convert_bytes_string W S T U _ 0 cap hS.ax hU.ax hT.ax, run_bytesToString W ad 0 cap [] (by simp [loadCells, loadCellsFrom])]
      simp [strOf]; rfl
  | ro _ _ _ b off cap us hb' hc hr h3 h4 h5 =>
    subst hb
    have hus := rel_bytes hr
    have hld : (loadCells ⟨b, off, none⟩ n').run P W = .ok ((l.map fun b => ((b.toNat : Nat) : Int)).map (Value.int .u8)).toArray W := by
      have := run_loadCells_list (P := P) W ⟨b, off, none⟩ ((l.map fun b => ((b.toNat : Nat) : Int)).map (Value.int .u8)) (fun j v hj => by
        obtain ⟨h6, rfl⟩ := List.getElem?_eq_some_iff.1 hj
        simp at h6
        rw [addr_add, hc j (by simpa using h6), hus j h6]
        simp)
      simpa [hn] using this
    simp only [execOp, ho, hu]
    rw [Sem.run_bind, run_convert_bytes_string W S T U _ n' cap hS.ax hU.ax hT.ax, run_bytesToString W _ n' cap _ hld, foldl_strOf]
    rfl

/-- A slice against nil. -/
def IsNil (n : Nat) (pos : Bool) : AV → List HE → Prop := fun v Hn => ∃ c : Bool, v = .val (.bool c) ∧ Hn = [] ∧ ((c == pos) = true → n = 0)
theorem O.eqlNil {T T' U : Nat} {x y : Operand} {full : Bool} {n : Nat} {xs : List AV} [hT : TyD P T (.slice U)] (ho : o.op = .binOp .eql T x y T') (hx : ev E x = some (.ro full n xs)) (hy : ev E y = some (.val (.slice none 0 0))) : OpW P N o E H (IsNil n true) := fun R a W h1 h2 h3 ha => by
  have hv := ha.ev hx
  generalize hu : a.eval x = u at *
  have hyv := (ha.ev hy).val_inv
  have hg : ∀ ad m c, (eqGuard .eql T x y (.slice ad m c) (.slice none 0 0)).run P W = .ok () W := fun ad m c => by unfold eqGuard; split <;> first | rfl | contradiction
  have key : ∀ ad m c, (execOp a.eval o).run P W = .ok (.value (.bool (Option.isNone (α := Addr) ad))) W ∨ u ≠ .slice ad m c := fun ad m c => by
    by_cases hs : u = .slice ad m c
    · subst hs
      refine .inl ?_
      simp only [execOp, ho, hu, hyv]
      rw [Sem.run_bind, Sem.run_bind, hg]
      show Result.andThen ((binOp .eql T (.slice ad m c) (.slice none 0 0)).run P W) _ = _
      have := _root_.Go.Lib.run_eql_slice_nil (P := P) W T U ad m c 0 0 hT.ax
      rw [this]; rfl
    · exact .inr hs
  have fin : ∀ ad m c, u = .slice ad m c → (ad = none → n = 0) → o.wp P a W (fun A' W' => ∃ u v Hn R', A' = a.put o.dst u ∧ IsNil n true v Hn ∧ Post1 R W v Hn u W' R') NoQ := fun ad m c he h0 => by
    rcases key ad m c with hr | hne
    · unfold Oper.wp
      rw [hr]
      refine ⟨_, .val (.bool ad.isNone), [], R, rfl, ⟨_, rfl, rfl, fun h => ?_⟩, Post1.same h1 (.val _)⟩
      cases ad with
      | none => exact h0 rfl
      | some _ => cases h
    · exact absurd he hne
  cases hv with
  | emp _ ad cap h3 h4 => exact fin ad 0 cap rfl (fun _ => rfl)
  | ro _ _ _ b off cap us hb' hc hr h3 h4 h5 => exact fin _ _ _ rfl (fun h => by cases h)

/-- An empty literal. -/
theorem O.buildSlice0 {T U k bs : Nat} {z : Value} [hs : TyS P T U k bs z] (ho : o.op = .buildSlice T 0 #[]) : OpW P N o E H (NewRow U k 0 []) := fun R a W h0 h2 h3' ha => by
  obtain ⟨i, hi, hik, hib, hz⟩ := hs.el
  have hr : (execOp a.eval o).run P W = .ok (.value (.slice (some ⟨W.heap.size, 0, none⟩) 0 0)) (W.alloc (.cells #[] U)) := by
    simp [execOp, ho, Instr.buildSlice, run_underlying hs.ty, sizeOf, typeInfo, hi, newRow, Instr.fill]; congr 2; apply Array.ext'; simp [Array.toList_range]
  unfold Oper.wp
  rw [hr]
  refine ⟨_, .val _, _, R, rfl, ⟨_, rfl, rfl, rfl⟩, Mods.alloc (Mods.refl _ _) _, fun _ h => h, fun _ h => .inl h, .val _, ?_, by simp⟩
  intro e he
  obtain rfl : e = _ := by simpa using he
  refine ⟨⟨[], ⟨by simp, .inr ⟨W.heap.size, 0, #[], rfl, Nat.zero_le _, heap_alloc_new W _, Nat.le_refl _, Nat.zero_le _, by simp, by simp⟩⟩, RelL.nil⟩, fun b hb => ?_⟩
  have : some W.heap.size = some b := hb
  cases this
  exact ⟨Nat.le_refl _, fun h => by have := h0 _ h; omega⟩

theorem O.minI {T : Array Nat} {x y : Operand} {k : IntKind} {p q c : Int} (ho : o.op = .call { callee := .builtin .min, args := #[x, y], argTypes := T }) (hx : ev E x = some (.val (.int k p))) (hy : ev E y = some (.val (.int k q))) (hc : (if q < p then q else p) = c) :
    OpW P N o E H (Is (.val (.int k c))) := .of_run fun R a W h1 h2 ha =>
  ⟨.int k c, by simp [execOp, ho, (ha.ev hx).val_inv, (ha.ev hy).val_inv, resolve, invoke, builtin, Builtin.min_, Builtin.min2, hc], .val _⟩
theorem O.maxI {T : Array Nat} {x y : Operand} {k : IntKind} {p q c : Int} (ho : o.op = .call { callee := .builtin .max, args := #[x, y], argTypes := T }) (hx : ev E x = some (.val (.int k p))) (hy : ev E y = some (.val (.int k q))) (hc : (if p < q then q else p) = c) :
    OpW P N o E H (Is (.val (.int k c))) := .of_run fun R a W h1 h2 ha =>
  ⟨.int k c, by simp [execOp, ho, (ha.ev hx).val_inv, (ha.ev hy).val_inv, resolve, invoke, builtin, Builtin.max_, Builtin.max2, hc], .val _⟩

end
end Go.Proofs.Ytiddmpmpjdnmeaa.A
