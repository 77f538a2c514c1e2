/-
  x[:k:k], and appends to slices without room that are read only.
-/
import Derived.Test.YtiddmpmpjdnmeaaSm
namespace Go.Proofs.Ytiddmpmpjdnmeaa.A
open Go.RowKit L
set_option linter.unusedVariables false
set_option linter.unusedSimpArgs false
section
variable {Γ : Cx} {P : Program} {Q : Exit → Act → World → Prop} {E : Env} {H : List HE} {N : Nat} {o : Oper} {ops : Array Oper} {rest : List Oper}

theorem O.sliceMax {T : Nat} {x y y' : Operand} {full : Bool} {n k : Nat} {kk kk' : IntKind} {z z' : Int} {xs ys : List AV} {U sz bs : Nat} {zz : Value} [hs : TyS P T U sz bs zz] (ho : o.op = .slice T x none (some y) (some y')) (hx : ev E x = some (.ro full n xs)) (hy : ev E y = some (.val (.int kk z))) (hy' : ev E y' = some (.val (.int kk' z')))
    (hz : z = (k : Int)) (hz' : z' = (k : Int)) (hk : k ≤ n) (hys : xs.take (k * sz) = ys) : OpW P N o E H (Is (.ro true k ys)) := .of_run fun R a W h1 h2 ha => by
  subst hz
  subst hz'
  obtain ⟨i, hi, hi2, -⟩ := hs.el
  have hv := ha.ev hx
  have e1 := (ha.ev hy).val_inv
  have e2 := (ha.ev hy').val_inv
  generalize hu : a.eval x = u at *
  have hb : ∀ cap : Nat, k ≤ cap → (Instr.sliceBounds true n cap none (some (a.eval y)) (some (a.eval y'))).run P W = .ok (0, k, k) W := fun cap hc => by
    have h5 : (k : Int) ≤ (cap : Int) := by omega
    simp [Instr.sliceBounds, Instr.sliceBound, e1, e2, asIntOf, h5]
  cases hv with
  | emp _ ad cap h3 h4 =>
    obtain rfl : k = 0 := by omega
    have hb := hb cap (by omega)
    have : ys = [] := by rw [← hys]; simp
    subst this
    refine ⟨.slice (if (0 : Nat) = 0 then ad else ad.map (·.add (0 * sz))) 0 0, ?_, .emp _ _ _ (fun _ => rfl) (by omega)⟩
    simp [execOp, ho, hu, Instr.sliceAt, Instr.slice, run_underlying hs.ty, hb, sizeOf, typeInfo, hi, hi2]
  | ro _ _ _ b off cap us hb' hc hr h3 h4 h5 =>
    have hb := hb cap (by omega)
    refine ⟨.slice (some ⟨b, off, none⟩) k k, ?_, ?_⟩
    · simp only [execOp, ho, hu, Instr.sliceAt, Instr.slice, run_underlying hs.ty, Sem.run_bind, Result.andThen_ok, hb, sizeOf, typeInfo, hi, hi2, run_program, Sem.run_pure, Option.map_none, Option.map_some]
      split <;> simp [addr_add]
    · subst hys
      refine .ro _ _ _ b off _ us hb' (fun j hj => ?_) (fun j hj => ?_) (Nat.le_refl _) (by omega) (fun h => rfl)
      · simp at hj; exact hc _ (by omega)
      · simp only [List.getElem_take]
        simp at hj
        exact hr _ (by omega)

theorem run_append_full {T U T2 k bs : Nat} {z : Value} (hs : TyS P T U k bs z) (hz : z.cells.size = k) (hk : 0 < k) {W : World} {n m : Nat} {us news : List Value} {base : Option Addr} (hus : us.length = n * k)
    (holds : (Builtin.firstCells k n (.slice base n n)).run P W.drew = .ok us.toArray W.drew) {x : Value} (hsrc : Src P k T2 x m news W) (hm : 0 < m)
    (h63 : n + m ≤ maxLen) (hby : (n + m) * bs ≤ 140737488355328) (ty : TypeId) :
    ∃ v' W', (Builtin.append_ #[T, T2] ty #[.slice base n n, x]).run P W = .ok v' W' ∧ W'.ownsRow 0 U k v' (n + m) (us ++ news) ∧ W.grownBy W' none ∧ v'.ownBlock = some W.heap.size := by
  obtain ⟨i, hi, hik, hib, hiz⟩ := hs.el
  have hsmall : n + m ≤ 9223372036854775807 := by simp only [maxLen] at h63; omega
  have hlen : (us ++ news).length = (n + m) * k := by rw [List.length_append, hus, hsrc.newsLen, Nat.add_mul]
  have hsrc' : Src P i.size T2 x m news W := by rw [hik]; exact hsrc
  have hge := grownCap_ge W (n + m) n U
  have hcm : grownCap W (n + m) n U ≤ maxLen := grownCap_le_maxLen W (n + m) n U h63
  have hr := run_append_grow_src (P := P) W T T2 ty U i z hs.ty hi hiz base n n us (by rw [hik]; exact holds) x m news hsrc' (by omega) (by omega) (growslice_fits (by omega) (by rw [hib]; exact hby))
  refine ⟨_, _, hr, ⟨hlen, .inr ⟨W.heap.size, _, _, rfl, Nat.zero_le _, heap_alloc_new W.drew _, hge, hcm, ?_, ?_⟩⟩, ⟨rfl, rfl, rfl, by simp, fun q hq _ => Below.heap_alloc W.drew _ q hq⟩, rfl⟩
  · rw [Array.size_append, List.size_toArray, size_zeroCells, hz, hlen, ← Nat.add_mul]
    congr 1
    omega
  · rw [Array.toList_append, ← hlen]
    exact List.take_left

/-- An append to a slice without room: a new slice, that nobody writes. -/
theorem O.appendRo {T T2 U k bs : Nat} {z : Value} {s x : Operand} {w : AV} {n m : Nat} {xs ys : List AV} [hs : TyS P T U k bs z] (ho : o.op = .call { callee := .builtin .append, args := #[s, x], argTypes := #[T, T2] })
    (hz : Nat.beq z.cells.size k = true) (hk : Nat.ble 1 k = true) (hv : ev E s = some (.ro true n xs)) (hx : ev E x = some w) (hsrc : SrcA P T2 k H w m ys) (hone : ys.all AV.one = true) (hxo : xs.all AV.one = true) (hxl : xs.length = n * k) (hn : n + m ≤ maxLen) (hby : (n + m) * bs ≤ 140737488355328) :
    OpW P N o E H (Is (.ro false (n + m) (xs ++ ys))) := fun R a W h0 h2 h3 ha => by
  have hz := Nat.eq_of_beq_eq_true hz
  have hk := Nat.le_of_ble_eq_true hk
  obtain ⟨news, h4, h5⟩ := hsrc.2 R W (a.eval x) h2 (ha.ev hx)
  have hsr := h5 (h4.all_one hone)
  have hv := ha.ev hv
  obtain ⟨i, hi, hik, hib, hiz⟩ := hs.el
  unfold Oper.wp
  by_cases hm : m = 0
  · subst hm
    have hy0 : ys = [] := List.eq_nil_of_length_eq_zero (by rw [hsrc.1]; simp)
    have hn0 : news = [] := List.eq_nil_of_length_eq_zero (by simpa using hsr.newsLen)
    subst hy0
    subst hn0
    rw [List.append_nil, Nat.add_zero]
    have hu : ∀ u, RelV R W (.ro true n xs) u → ∃ base cap, u = .slice base n cap ∧ n ≤ cap := fun u hv => by
      cases hv with
      | emp _ ad cap h3 h4 => exact ⟨_, _, rfl, Nat.zero_le _⟩
      | ro _ _ _ b off cap us hb' hc hr h3 h4 h5 => exact ⟨_, _, rfl, h3⟩
    obtain ⟨base, cap, hu, hle⟩ := hu _ hv
    have hr := run_append_nothing (P := P) W T T2 o.type U i hs.ty hi base n cap hle (a.eval x) (by rw [hik]; exact hsr)
    rw [append_exec ho (by rw [hu]; exact hr)]
    exact ⟨_, _, [], R, rfl, ⟨rfl, rfl⟩, Post1.same h0 (by rw [← hu]; exact hv.unfull)⟩
  · have hu : ∃ base us, a.eval s = .slice base n n ∧ us.length = n * k ∧ (Builtin.firstCells k n (.slice base n n)).run P W.drew = .ok us.toArray W.drew ∧ RelL R W xs us := by
      generalize a.eval s = u at hv
      cases hv with
      | emp _ ad cap h3 h4 =>
        have := h3 rfl
        subst this
        refine ⟨ad, [], rfl, by simp, ?_, RelL.nil⟩
        cases ad with
        | none => simp [Builtin.firstCells]
        | some ad => exact run_firstCells_some (P := P) W.drew k 0 ad 0 0 [] (by simp) (fun j v h => by simp at h)
      | ro _ _ _ b off cap us hb' hc hr h3 h4 h5 =>
        have := h5 rfl
        subst this
        refine ⟨some ⟨b, off, none⟩, (List.range xs.length).map us, rfl, by simpa using hxl, ?_, ⟨by simp, fun j hj => ?_⟩⟩
        · exact run_firstCells_some (P := P) W.drew k cap ⟨b, off, none⟩ cap cap _ (by simpa using hxl) (fun j v h => by
            obtain ⟨h6, rfl⟩ := List.getElem?_eq_some_iff.1 h
            simp at h6
            rw [addr_add]
            simpa using hc j h6)
        · have : ((List.range xs.length).map us).getD j undef = us j := by simp [List.getD, hj]
          rw [this]; exact hr j hj
    obtain ⟨base, us, hu, hul, hold, hur⟩ := hu
    obtain ⟨v', W', hrun, hown, hgr, hblk⟩ := run_append_full hs hz hk hul hold hsr (by omega) hn hby o.type
    rw [append_exec ho (by rw [hu]; exact hrun)]
    have hE : Ext W W' := Mods.grown (Mods.refl _ _) hgr fun c hc _ => by cases hc
    have hlt : W.heap.size < W'.heap.size := (hown.lt _ hblk).2
    have hrow : HE.ok R W' (.row v' U k (n + m) (xs ++ ys)) := ⟨_, hown, (hur.app h4).mono (fun _ h => h) (extSame hE h0)⟩
    refine ⟨v', _, [], fun b => R b ∨ (HE.row v' U k (n + m) (xs ++ ys)).foot b, rfl, ⟨rfl, rfl⟩, hE, fun _ h => .inl h, ?_, row_ro hrow, fun _ he => (by cases he), .nil⟩
    rintro b (hb | hb)
    · exact .inl hb
    · rw [HE.foot, hblk] at hb
      cases hb
      exact .inr ⟨Nat.le_refl _, hlt⟩
end
end Go.Proofs.Ytiddmpmpjdnmeaa.A
