/-
  Operations over a symbolic state: those that make memory, and those that write; calls; the walk's beginning and end.
-/
import Derived.Test.YtiddmpmpjdnmeaaSc
import Derived.Deep.AppendSrc
import Derived.Deep.Upon
import Derived.Great.BuildSlice
namespace Go.Proofs.Ytiddmpmpjdnmeaa.A
open Go.RowKit L
set_option linter.unusedVariables false
set_option linter.unusedSimpArgs false

theorem relL_vals (R : Nat → Prop) (W : World) (us : List Value) : RelL R W (us.map .val) us := ⟨by simp, fun j hj => by
  have hj' : j < us.length := by simpa using hj
  have : us.getD j undef = us[j] := by simp [List.getD, hj']
  rw [List.getElem_map, this]; exact .val _⟩

theorem RelL.all_one {R : Nat → Prop} {W : World} {xs : List AV} {us : List Value} (h : RelL R W xs us) (h1 : xs.all AV.one = true) : ∀ u ∈ us, u.oneCell' = true := by
  intro u hu
  obtain ⟨j, hj, rfl⟩ := List.getElem_of_mem hu
  have hj' : j < xs.length := by rw [← h.1]; exact hj
  have := h.2 j hj'
  rw [show us.getD j undef = us[j] by simp [List.getD, hj]] at this
  exact this.one (List.all_eq_true.1 h1 _ (List.getElem_mem hj'))

/-- A new block. -/
theorem post1_new {R : Nat → Prop} {W : World} (hR : ∀ b, R b → b < W.heap.size) (T : TypeId) (cs : Array Value) (room : Nat) (xs : List AV) (hr : cs.size = room) (hx : RelL R W xs (cs.toList.take xs.length)) {v : AV} {u : Value}
    (hv : ∀ R W, RelV R W v u) : Post1 R W v [.blk W.heap.size T room xs] u (W.alloc (.cells cs T)) R := by
  have hs : ∀ b, R b → (W.alloc (.cells cs T)).heap[b]? = W.heap[b]? := fun b hb => Below.heap_alloc W _ b (hR b hb)
  refine ⟨Mods.alloc (Mods.refl _ _) _, fun _ h => h, fun _ h => .inl h, hv _ _, ?_, by simp⟩
  intro e he
  obtain rfl : e = _ := by simpa using he
  refine ⟨⟨_, cs, heap_alloc_new W _, hr, rfl, hx.mono (fun _ h => h) hs⟩, fun b hb => ?_⟩
  cases hb
  exact ⟨Nat.le_refl _, fun h => by have := hR _ h; omega⟩

section
variable {Γ : Cx} {P : Program} {Q : Exit → Act → World → Prop} {E : Env} {H : List HE} {N : Nat} {o : Oper} {ops : Array Oper} {rest : List Oper}

def NewBlk (v : Nat → AV) (T room : Nat) (xs : List AV) : AV → List HE → Prop := fun v' Hn => ∃ b, v' = v b ∧ Hn = [.blk b T room xs]

theorem O.alloc {T k bs : Nat} {z : Value} {xs : List AV} [hn : TyN P T k bs z] (ho : o.op = .alloc T) (hx : z.cells.toList.map AV.val = xs) (hk : z.cells.size = k) :
    OpW P N o E H (NewBlk (fun b => .val (.pointer (some ⟨b, 0, none⟩))) T k xs) := fun R a W h1 h2 h3 ha => by
  obtain ⟨i, hi, hik, hib, hiz⟩ := hn.ax
  have hr : (execOp a.eval o).run P W = .ok (.value (.pointer (some ⟨W.heap.size, 0, none⟩))) (W.alloc (.cells z.cells T)) := by
    simp [execOp, ho, Instr.alloc, zeroValue, typeInfo, hi, hiz, newVar, newRow]
  unfold Oper.wp
  rw [hr]
  refine ⟨_, _, _, R, rfl, ⟨W.heap.size, rfl, rfl⟩, post1_new h1 T z.cells k xs hk ?_ (fun _ _ => .val _)⟩
  subst hx
  rw [List.length_map, List.take_length]
  exact relL_vals R W _

theorem O.box {T k : Nat} {x : Operand} {v : AV} {xs : List AV} (ho : o.op = .box T x) (hx : ev E x = some v) (hv : v.cells = xs) (hk : xs.length = k) (h1 : (match v with | .val u => u.oneCell' | .opt _ _ => false | _ => true) = true) :
    OpW P N o E H (NewBlk (fun b => .val (.pointer (some ⟨b, 0, none⟩))) T k xs) := fun R a W h0 h2 h3 ha => by
  have hc := (ha.ev hx).cells (fun u hu => by subst hu; exact h1) (fun c y hu => by subst hu; cases h1)
  rw [hv] at hc
  have hr : (execOp a.eval o).run P W = .ok (.value (.pointer (some ⟨W.heap.size, 0, none⟩))) (W.alloc (.cells (a.eval x).cells T)) := by
    simp [execOp, ho, Instr.box, newVar, newRow]
  unfold Oper.wp
  rw [hr]
  have hl := hc.1
  rw [Array.length_toList] at hl
  refine ⟨_, _, _, R, rfl, ⟨W.heap.size, rfl, rfl⟩, post1_new h0 T _ k xs (by omega) ?_ (fun _ _ => .val _)⟩
  rw [List.take_of_length_le (by rw [Array.length_toList]; omega)]
  exact hc

/-! Struct and array literals. -/

def splice (xs : List AV) (off : Nat) : List AV → List AV
  | [] => xs
  | c :: r => splice (xs.set off c) (off + 1) r
def fillA (place : Nat → Option (Nat × Nat)) (xs : List AV) : List (Nat × AV) → Option (List AV)
  | [] => some xs
  | (i, v) :: r => match place i with
    | none => none
    | some (off, size) => bif Nat.beq v.cells.length size && Nat.ble (off + v.cells.length) xs.length then fillA place (splice xs off v.cells) r else none

theorem splice_rel {R : Nat → Prop} {W : World} : ∀ (cs : List AV) (us : List Value) (xs : List AV) (ws : Array Value) (off k : Nat), RelL R W cs us → RelL R W xs ws.toList →
    RelL R W (splice xs (off + k) cs) ((us.zipIdx k).foldl (fun cs (c, j) => cs.setIfInBounds (off + j) c) ws).toList
  | [], us, xs, ws, off, k, h1, h2 => by
    have : us = [] := List.eq_nil_of_length_eq_zero (by simpa using h1.1)
    subst this
    exact h2
  | c :: r, us, xs, ws, off, k, h1, h2 => by
    obtain ⟨u, ur, rfl, h3, h4⟩ := h1.uncons
    exact splice_rel r ur (xs.set (off + k) c) (ws.setIfInBounds (off + k) u) off (k + 1) h4 (by
      rw [Array.toList_setIfInBounds]; exact h2.set _ h3)

theorem fill_rel {R : Nat → Prop} {W : World} {place place' : Nat → Option (Nat × Nat)} (hp : ∀ i q, place i = some q → place' i = some q) : ∀ (ps : List (Nat × AV)) (vs : List (Nat × Value)) (xs ys : List AV) (ws : Array Value),
    ps.map (·.1) = vs.map (·.1) → RelL R W (ps.map (·.2)) (vs.map (·.2)) → (∀ p ∈ ps, (∀ u, p.2 = .val u → u.oneCell' = true) ∧ ∀ c y, p.2 ≠ .opt c y) → RelL R W xs ws.toList → fillA place xs ps = some ys →
    ∃ zs : Array Value, Instr.fill place' ws vs = some zs ∧ RelL R W ys zs.toList
  | [], vs, xs, ys, ws, h1, h2, h3, h4, h5 => by
    have : vs = [] := by cases vs <;> simp_all
    subst this
    cases h5
    exact ⟨ws, rfl, h4⟩
  | (i, v) :: r, vs, xs, ys, ws, h1, h2, h3, h4, h5 => by
    obtain ⟨u, ur, he, h6, h7⟩ := h2.uncons
    cases vs with
    | nil => simp at h1
    | cons p vr =>
      obtain ⟨i', u'⟩ := p
      simp only [List.map_cons, List.cons.injEq] at h1 he
      obtain ⟨rfl, h1⟩ := h1
      obtain ⟨rfl, rfl⟩ := he
      unfold fillA at h5
      split at h5
      · cases h5
      · rename_i off size hpl
        have hc := h6.cells (h3 _ (List.mem_cons_self ..)).1 (h3 _ (List.mem_cons_self ..)).2
        have hl : v.cells.length = u'.cells.size := by have := hc.1; rw [Array.length_toList] at this; exact this.symm
        cases hcond : (Nat.beq v.cells.length size && Nat.ble (off + v.cells.length) xs.length) with
        | false => rw [hcond] at h5; cases h5
        | true =>
          rw [hcond] at h5
          simp only [Bool.and_eq_true] at hcond
          have h8 := Nat.eq_of_beq_eq_true hcond.1
          have h9 := Nat.le_of_ble_eq_true hcond.2
          have hwl : ws.size = xs.length := by have := h4.1; rw [Array.length_toList] at this; exact this
          have hsp := splice_rel v.cells u'.cells.toList xs ws off 0 hc h4
          obtain ⟨zs, h10, h11⟩ := fill_rel hp r vr _ ys _ h1 h7 (fun p hp => h3 p (List.mem_cons_of_mem _ hp)) hsp h5
          refine ⟨zs, ?_, h11⟩
          unfold Instr.fill
          rw [hp _ _ hpl]
          simp only
          rw [if_neg (by simp; omega)]
          rw [← Array.foldl_toList, Array.toList_zipIdx]
          exact h10

class TyB (P : Program) (T : Nat) (ps : outParam (List (Nat × Nat))) (z : outParam Value) : Prop where
  ax : ∃ i, P.info? T = some i ∧ i.zero = some z ∧ ((∃ fs, P.underlying T = some (.struct fs) ∧ fs.toList.mapM (fun f => (P.info? f.type).map fun i => (f.offset, i.size)) = some ps) ∨
    (∃ n U ie, P.underlying T = some (.array n U) ∧ P.info? U = some ie ∧ ps = (List.range n).map fun i => (i * ie.size, ie.size)))

def vals1 : List (Nat × AV) → Bool
  | [] => true
  | (_, .val u) :: r => u.oneCell' && vals1 r
  | (_, .opt _ _) :: _ => false
  | _ :: r => vals1 r
theorem vals1_spec : ∀ {ps : List (Nat × AV)}, vals1 ps = true → ∀ p ∈ ps, (∀ u, p.2 = .val u → u.oneCell' = true) ∧ ∀ c y, p.2 ≠ .opt c y
  | [], _, p, hp => by cases hp
  | (i, v) :: r, h, p, hp => by
    rcases List.mem_cons.1 hp with rfl | hp
    · refine ⟨fun u hu => ?_, fun c y hu => ?_⟩
      · simp only at hu
        subst hu
        simp only [vals1, Bool.and_eq_true] at h
        exact h.1
      · simp only at hu
        subst hu
        cases h
    · refine vals1_spec (ps := r) ?_ p hp
      cases v <;> simp_all [vals1]

def evp (E : Env) : List (Nat × Operand) → Option (List (Nat × AV))
  | [] => some []
  | (i, x) :: r => match ev E x, evp E r with | some v, some vs => some ((i, v) :: vs) | _, _ => none
theorem RelA.evp {R : Nat → Prop} {W : World} {a : Act} (h : RelA N R W E a) : ∀ {xs : List (Nat × Operand)} {vs : List (Nat × AV)}, A.evp E xs = some vs →
    vs.map (·.1) = (xs.map fun (i, x) => (i, a.eval x)).map (·.1) ∧ RelL R W (vs.map (·.2)) ((xs.map fun (i, x) => (i, a.eval x)).map (·.2))
  | [], vs, hx => by cases hx; exact ⟨rfl, RelL.nil⟩
  | (i, x) :: r, vs, hx => by
    unfold A.evp at hx
    split at hx
    · rename_i v vs' h1 h2
      cases hx
      obtain ⟨h3, h4⟩ := RelA.evp h h2
      exact ⟨by simp [h3], RelL.cons (h.ev h1) h4⟩
    · cases hx

theorem O.build {T : Nat} {pl : List (Nat × Nat)} {z : Value} {parts : List (Nat × Operand)} {ps : List (Nat × AV)} {ys : List AV} [hb : TyB P T pl z] (ho : o.op = .build T parts.toArray) (hx : evp E parts = some ps) (h1 : vals1 ps = true)
    (hy : fillA (pl[·]?) (z.cells.toList.map .val) ps = some ys) : OpW P N o E H (Is (.agg ys)) := .of_run fun R a W h0 h2 ha => by
  obtain ⟨i, hi, hz, hu⟩ := hb.ax
  obtain ⟨h3, h4⟩ := ha.evp hx
  have key : ∀ place', (∀ i q, pl[i]? = some q → place' i = some q) → ∃ zs : Array Value, Instr.fill place' z.cells (parts.map fun (i, x) => (i, a.eval x)) = some zs ∧ RelL R W ys zs.toList := fun place' hp =>
    fill_rel (W := W) (R := R) (place := (pl[·]?)) (place' := place') hp ps _ _ ys z.cells h3 h4 (vals1_spec h1) (relL_vals R W _) hy
  have hfin : ∀ zs : Array Value, P.built T (parts.map fun (i, x) => (i, a.eval x)) = some zs → RelL R W ys zs.toList → ∃ u, (execOp a.eval o).run P W = .ok (.value u) W ∧ RelV R W (.agg ys) u := fun zs h5 h6 => by
    refine ⟨.agg zs, ?_, by simpa using h6.toAgg⟩
    simp only [execOp, ho]
    rw [Sem.run_bind, run_build W T _ zs (by simpa using h5)]
    rfl
  rcases hu with ⟨fs, hu, hm⟩ | ⟨n, U, ie, hu, hie, hpl⟩
  · obtain ⟨zs, h5, h6⟩ := key (pl.toArray[·]?) (fun i q h => by simpa using h)
    exact hfin zs (by unfold Program.built; simp [hi, hu, hz, hm]; simpa using h5) h6
  · obtain ⟨zs, h5, h6⟩ := key (fun i => some (i * ie.size, ie.size)) (fun i q h => by
      subst hpl
      obtain ⟨h7, rfl⟩ := List.getElem?_eq_some_iff.1 h
      simp)
    exact hfin zs (by unfold Program.built; simp [hi, hu, hz, hie]; exact h5) h6

def zerosA (n : Nat) (z : Value) : List AV := (List.replicate n (z.cells.toList.map AV.val)).flatten
theorem zeros_cells (z : Value) (k : Nat) (hz : z.cells.size = k) : ∀ n, ((Array.range (n * k)).map (z.cells[· % z.cells.size]!)).toList = (List.replicate n z.cells.toList).flatten := by
  intro n
  apply List.ext_getElem?
  intro i
  have key : ∀ (n i : Nat), (List.replicate n z.cells.toList).flatten[i]? = if i < n * k then some (z.cells[i % k]!) else none := by
    intro n
    induction n with
    | zero => intro i; simp
    | succ n ih =>
      intro i
      rw [List.replicate_succ, List.flatten_cons, List.getElem?_append]
      by_cases h : i < k
      · have h1 : i < z.cells.size := by omega
        have h2 : i < (n + 1) * k := by rw [Nat.add_mul]; omega
        simp [h1, h2, Nat.mod_eq_of_lt h]
      · have h1 : ¬ i < z.cells.toList.length := by simp; omega
        rw [if_neg h1, ih]
        have e : (i - k) % k = i % k := by rw [← Nat.mod_eq_sub_mod (by omega)]
        simp only [Array.length_toList, hz, e]
        have h3 : (i - k < n * k) ↔ (i < (n + 1) * k) := by rw [Nat.add_mul]; omega
        simp only [h3]
  rw [key, hz]
  by_cases h : i < n * k <;> simp [h]

theorem O.buildSlice {T U k bs n : Nat} {z : Value} {parts : List (Nat × Operand)} {ps : List (Nat × AV)} {ys : List AV} [hs : TyS P T U k bs z] (ho : o.op = .buildSlice T n parts.toArray) (hx : evp E parts = some ps) (h1 : vals1 ps = true)
    (hsm : Nat.ble (n * k) 16777216 = true) (hpos : Nat.ble 1 (n * k) = true)
    (hzk : Nat.beq z.cells.size k = true) (hy0 : fillA (fun i => some (i * k, k)) (zerosA n z) ps = some ys) : OpW P N o E H (NewBlk (fun b => .val (.slice (some ⟨b, 0, none⟩) n n)) U (n * k) ys) := fun R a W h0 h2 h3' ha => by
  obtain ⟨i, hi, hik, hib, hz⟩ := hs.el
  obtain ⟨h3, h4⟩ := ha.evp hx
  have hy : fillA (fun i => some (i * k, k)) (((Array.range (n * k)).map (z.cells[· % z.cells.size]!)).toList.map .val) ps = some ys := by
    rw [zeros_cells z k (Nat.eq_of_beq_eq_true hzk) n, List.map_flatten, List.map_replicate]
    exact hy0
  obtain ⟨zs, h5, h6⟩ := fill_rel (W := W) (R := R) (place := fun i => some (i * k, k)) (place' := fun j => some (j * i.size, i.size)) (fun j q h => by rw [hik]; exact h) ps _ _ ys ((Array.range (n * k)).map (z.cells[· % z.cells.size]!)) h3 h4 (vals1_spec h1) (relL_vals R W _) hy
  have hsm := Nat.le_of_ble_eq_true hsm
  have hpos := Nat.le_of_ble_eq_true hpos
  have hlen : ∀ (ps : List (Nat × AV)) (xs ys : List AV), fillA (fun i => some (i * k, k)) xs ps = some ys → ys.length = xs.length := by
    intro ps
    have hsp : ∀ (cs xs : List AV) (off : Nat), (splice xs off cs).length = xs.length := by
      intro cs
      induction cs with
      | nil => intro xs off; rfl
      | cons c r ih => intro xs off; rw [splice, ih]; simp
    induction ps with
    | nil => intro xs ys h; cases h; rfl
    | cons p r ih =>
      intro xs ys h
      unfold fillA at h
      simp only at h
      cases hcond : (Nat.beq p.2.cells.length k && Nat.ble (p.1 * k + p.2.cells.length) xs.length) with
      | false => rw [hcond] at h; cases h
      | true => rw [hcond] at h; rw [ih _ _ h, hsp]
  have hyl : ys.length = n * k := by rw [hlen _ _ _ hy]; simp
  have hzl : zs.size = n * k := by have := h6.1; rw [Array.length_toList] at this; omega
  have hr : (execOp a.eval o).run P W = .ok (.value (.slice (some ⟨W.heap.size, 0, none⟩) n n)) (W.alloc (.cells zs U)) := by
    simp only [execOp, ho]
    rw [Sem.run_bind, run_buildSlice (P := P) W T U n _ zs i z hs.ty hi hz (by rw [hik]; omega) (by rw [hik]; omega) (by rw [hik]; simpa [hik] using h5)]
    rfl
  unfold Oper.wp
  rw [hr]
  refine ⟨_, _, _, R, rfl, ⟨W.heap.size, rfl, rfl⟩, post1_new h0 U zs (n * k) ys hzl ?_ (fun _ _ => .val _)⟩
  rw [List.take_of_length_le (by rw [Array.length_toList]; omega)]
  exact h6

end
end Go.Proofs.Ytiddmpmpjdnmeaa.A
