/-
  Contracts over plain values, told as contracts over symbolic states.
-/
import Derived.Test.YtjmkoelmiehdjaaSo
namespace Go.Proofs.Ytjmkoelmiehdjaa.A
open Go.RowKit L
set_option linter.unusedVariables false
set_option linter.unusedSimpArgs false
section
variable {P : Program}

def pval : AV → Option Value
  | .val v => some v
  | .agg xs => (valsOf xs).map fun vs => .agg vs.toArray
  | _ => none
def pvals : List AV → Option (List Value)
  | [] => some []
  | x :: r => match pval x, pvals r with | some v, some vs => some (v :: vs) | _, _ => none
theorem pval_rel {R : Nat → Prop} {W : World} {x : AV} {v u : Value} (h : pval x = some v) (hr : RelV R W x u) : u = v := by
  cases x with
  | val w => cases h; exact hr.val_inv
  | agg xs =>
    simp only [pval] at h
    cases hq : valsOf xs with
    | none => rw [hq] at h; cases h
    | some vs =>
      rw [hq] at h
      cases h
      obtain ⟨us, rfl, h1⟩ := hr.agg_inv
      rw [valsOf_rel hq h1]
  | _ => cases h
theorem pvals_rel {R : Nat → Prop} {W : World} : ∀ {xs : List AV} {vs us : List Value}, pvals xs = some vs → RelL R W xs us → us = vs
  | [], vs, us, h, hr => by cases h; exact List.eq_nil_of_length_eq_zero (by simpa using hr.1)
  | x :: xs, vs, us, h, hr => by
    obtain ⟨u, r, rfl, h1, h2⟩ := hr.uncons
    simp only [pvals] at h
    split at h
    · rename_i v vs' e1 e2
      cases h
      rw [pval_rel e1 h1, pvals_rel e2 h2]
    · cases h
theorem vals_mk {R : Nat → Prop} {W : World} : ∀ {xs : List AV} {vs : List Value}, valsOf xs = some vs → RelL R W xs vs
  | [], vs, h => by cases h; exact RelL.nil
  | x :: xs, vs, h => by
    cases x with
    | val w =>
      simp only [valsOf] at h
      cases hq : valsOf xs with
      | none => rw [hq] at h; cases h
      | some us' =>
        rw [hq] at h
        cases h
        exact RelL.cons (.val _) (vals_mk hq)
    | _ => simp [valsOf] at h
theorem pval_mk {R : Nat → Prop} {W : World} {x : AV} {v : Value} (h : pval x = some v) : RelV R W x v := by
  cases x with
  | val w => cases h; exact .val _
  | agg xs =>
    simp only [pval] at h
    cases hq : valsOf xs with
    | none => rw [hq] at h; cases h
    | some vs => rw [hq] at h; cases h; exact (vals_mk hq).toAgg
  | _ => cases h
theorem pvals_mk {R : Nat → Prop} {W : World} : ∀ {xs : List AV} {vs : List Value}, pvals xs = some vs → RelL R W xs vs
  | [], vs, h => by cases h; exact RelL.nil
  | x :: xs, vs, h => by
    simp only [pvals] at h
    split at h
    · rename_i v vs' e1 e2
      cases h
      exact RelL.cons (pval_mk e1) (pvals_mk e2)
    · cases h

theorem relS_new {W W' : World} {R : Nat → Prop} (hR : ∀ b, R b → b < W.heap.size) (hE : Ext W W') : RelS ⟨W, footOf [], R, 0⟩ R [] W' :=
  ⟨hE.mono fun b _ h => h.elim, fun b hb => Nat.lt_of_lt_of_le (hR b hb) hE.size, fun _ h => h, fun _ h => .inl h, fun _ h => (by cases h), fun _ h => (by cases h), .nil⟩
theorem Sp.of_calls {f : FuncId} {args : List AV} {us : List Value} {r : AV} {v : Value} (ha : pvals args = some us) (hr : pval r = some v) (h : ∀ W, Calls P f us.toArray W fun e W' => e = .returned v ∧ Ext W W') : Sp P f args [] (Is r) := fun W R us' hR _ _ hrel => by
  obtain rfl := pvals_rel ha hrel
  refine (h W).mono ?_
  rintro e W' ⟨rfl, hE⟩
  exact ⟨v, r, [], R, rfl, ⟨rfl, rfl⟩, relS_new hR hE, pval_mk hr⟩
theorem Sp.of_calls2 {f : FuncId} {args : List AV} {us : List Value} {rs : List AV} {vs : List Value} (ha : pvals args = some us) (hr : pvals rs = some vs) (h : ∀ W, Calls P f us.toArray W fun e W' => e = .returned (.tuple vs.toArray) ∧ Ext W W') : Sp P f args [] (Is (.tup rs)) := fun W R us' hR _ _ hrel => by
  obtain rfl := pvals_rel ha hrel
  refine (h W).mono ?_
  rintro e W' ⟨rfl, hE⟩
  exact ⟨_, .tup rs, [], R, rfl, ⟨rfl, rfl⟩, relS_new hR hE, (pvals_mk hr).toTup⟩
/-- A list of ints, in memory of the call's own. -/
theorem Sp.of_ints {f : FuncId} {args : List AV} {us : List Value} {T : TypeId} {k : IntKind} {xs : List Int} (ha : pvals args = some us) (h : ∀ W, Calls P f us.toArray W fun e W' => ∃ v, e = .returned v ∧ W'.ownsRow W.heap.size T 1 v xs.length (xs.map (.int k)) ∧ Ext W W') :
    Sp P f args [] (NewRow T 1 xs.length (intsA k xs)) := fun W R us' hR _ _ hrel => by
  obtain rfl := pvals_rel ha hrel
  refine (h W).mono ?_
  rintro e W' ⟨v, rfl, hown, hE⟩
  have hown0 : W'.ownsRow 0 T 1 v xs.length (xs.map (.int k)) := by
    refine ⟨hown.1, ?_⟩
    rcases hown.2 with h | ⟨g, cap, cur, rfl, hbg, rest⟩
    · exact .inl h
    · exact .inr ⟨g, cap, cur, rfl, Nat.zero_le _, rest⟩
  have hfoot : ∀ b, v.ownBlock = some b → W.heap.size ≤ b := fun b hb => by
    rcases hown.2 with ⟨rfl, _⟩ | ⟨g, cap, cur, rfl, hbg, rest⟩
    · cases hb
    · cases hb; exact hbg
  have h1 : v.oneCell' = true := by
    rcases hown.2 with ⟨rfl, _⟩ | ⟨g, cap, cur, rfl, hbg, rest⟩ <;> rfl
  have h0 := relS_new hR hE
  refine ⟨v, .val v, [.row v T 1 xs.length (intsA k xs)], R, rfl, ⟨v, rfl, h1, rfl⟩, ⟨h0.mods, h0.rlt, h0.rsub, h0.rnew, ?_, ?_, by simp⟩, .val _⟩
  · intro e he
    obtain rfl : e = _ := by simpa using he
    refine ⟨_, hown0, ?_⟩
    have := relL_vals R W' (xs.map (Value.int k))
    rwa [List.map_map] at this
  · intro e he b hb
    obtain rfl : e = _ := by simpa using he
    have := hfoot b hb
    exact ⟨.inl this, fun hr => by have := hR b hr; omega⟩
/-- A new row that the caller only reads. -/
theorem Sp.frozen {f : FuncId} {args : List AV} {T : TypeId} {sz n : Nat} {ys : List AV} (h : Sp P f args [] (NewRow T sz n ys)) : Sp P f args [] (Is (.ro false n ys)) := fun W R us h1 h2 h3 h4 => by
  refine (h W R us h1 h2 h3 h4).mono ?_
  rintro e W' ⟨u, r, H', R', rfl, ⟨v, rfl, hv1, rfl⟩, hs, hv⟩
  have hok := hs.ok _ (List.mem_cons_self ..)
  have hown := hs.own _ (List.mem_cons_self ..)
  have hu := hv.val_inv
  subst hu
  refine ⟨u, .ro false n ys, [], fun b => R' b ∨ (HE.row u T sz n ys).foot b, rfl, ⟨rfl, rfl⟩, ⟨hs.mods, ?_, fun b hb => .inl (hs.rsub b hb), ?_, fun _ h => (by cases h), fun _ h => (by cases h), .nil⟩, row_ro hok⟩
  · rintro b (hb | hb)
    · exact hs.rlt b hb
    · exact HE.ok_lt hok hb
  · rintro b (hb | hb)
    · exact hs.rnew b hb
    · exact .inr (hown b hb).1
end
end Go.Proofs.Ytjmkoelmiehdjaa.A
