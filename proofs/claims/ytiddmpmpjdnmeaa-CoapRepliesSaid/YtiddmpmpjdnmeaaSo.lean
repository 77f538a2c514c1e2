/-
  Bits of ints; == of structs whose cells are plain values; results of a box and a temporary.
-/
import Derived.Test.YtiddmpmpjdnmeaaSn
import Derived.Laws.StructEq
namespace Go.Proofs.Ytiddmpmpjdnmeaa.A
open Go.RowKit L
set_option linter.unusedVariables false
set_option linter.unusedSimpArgs false
section
variable {Γ : Cx} {P : Program} {Q : Exit → Act → World → Prop} {E : Env} {H : List HE} {N : Nat} {o : Oper} {ops : Array Oper} {rest : List Oper}

theorem O.and_ {T T' : Nat} {x y : Operand} {k : IntKind} {p q c : Int} (ho : o.op = .binOp .and T x y T') (hx : ev E x = some (.val (.int k p))) (hy : ev E y = some (.val (.int k q))) (hc : Go.bits .and k p q = c) : OpW P N o E H (Is (.val (.int k c))) :=
  O.binI ho hx hy fun W => by simp [binOp, intBits_and, hc]
theorem O.or_ {T T' : Nat} {x y : Operand} {k : IntKind} {p q c : Int} (ho : o.op = .binOp .or T x y T') (hx : ev E x = some (.val (.int k p))) (hy : ev E y = some (.val (.int k q))) (hc : Go.bits .or k p q = c) : OpW P N o E H (Is (.val (.int k c))) :=
  O.binI ho hx hy fun W => by simp [binOp, intBits_or, hc]
theorem O.xor_ {T T' : Nat} {x y : Operand} {k : IntKind} {p q c : Int} (ho : o.op = .binOp .xor T x y T') (hx : ev E x = some (.val (.int k p))) (hy : ev E y = some (.val (.int k q))) (hc : Go.bits .xor k p q = c) : OpW P N o E H (Is (.val (.int k c))) :=
  O.binI ho hx hy fun W => by simp [binOp, intBits_xor, hc]
theorem O.andNot_ {T T' : Nat} {x y : Operand} {k : IntKind} {p q c : Int} (ho : o.op = .binOp .andNot T x y T') (hx : ev E x = some (.val (.int k p))) (hy : ev E y = some (.val (.int k q))) (hc : Go.bits .andNot k p q = c) : OpW P N o E H (Is (.val (.int k c))) :=
  O.binI ho hx hy fun W => by simp [binOp, intBits_andNot, hc]

def valsOf : List AV → Option (List Value)
  | [] => some []
  | .val v :: r => (valsOf r).map (v :: ·)
  | _ :: _ => none
theorem valsOf_rel {R : Nat → Prop} {W : World} : ∀ {xs : List AV} {us vs : List Value}, valsOf xs = some us → RelL R W xs vs → vs = us
  | [], us, vs, h, hr => by
    cases h
    exact List.eq_nil_of_length_eq_zero (by simpa using hr.1)
  | x :: xs, us, vs, h, hr => by
    obtain ⟨v, r, rfl, h1, h2⟩ := hr.uncons
    cases x with
    | val w =>
      simp only [valsOf] at h
      cases hq : valsOf xs with
      | none => rw [hq] at h; cases h
      | some us' =>
        rw [hq] at h
        cases h
        rw [h1.val_inv, valsOf_rel hq h2]
    | _ => simp [valsOf] at h
theorem O.binAgg {op : BinOp} {T T' : Nat} {x y : Operand} {xs ys : List AV} {us vs : List Value} {v : Value} (ho : o.op = .binOp op T x y T') (hx : ev E x = some (.agg xs)) (hy : ev E y = some (.agg ys)) (hu : valsOf xs = some us) (hv : valsOf ys = some vs)
    (hg : P.eqGuardType P.depth T = false) (he : ∀ W, (binOp op T (.agg us.toArray) (.agg vs.toArray)).run P W = .ok v W) : OpW P N o E H (Is (.val v)) := .of_run fun R a W h1 h2 ha => by
  obtain ⟨us', e1, r1⟩ := (ha.ev hx).agg_inv
  obtain ⟨vs', e2, r2⟩ := (ha.ev hy).agg_inv
  obtain rfl := valsOf_rel hu r1
  obtain rfl := valsOf_rel hv r2
  refine ⟨v, ?_, .val _⟩
  simp only [execOp, ho, e1, e2]
  rw [Sem.run_bind, Sem.run_bind, run_eqGuard_agg W op T x y _ _ hg, Result.andThen_ok, he W]
  rfl

/-- Two results: one lies in a box, the other in a temporary. -/
theorem AQ.retCT {fn : Func} {Post : AV → List HE → Prop} {t s T k b T' room : Nat} {q : AV} {xs ys : List AV} {H' : List HE} [hg : TyG P T true k] (hr : fn.results = #[.cell t T, .tmp s]) (ht : look E t = some (.val (.pointer (some ⟨b, 0, none⟩)))) (hs' : look E s = some q) (hm : HE.blk b T' room xs ∈ H) (hv : xs.take k = ys) (hk : ys.length = k)
    (hH : ∃ H1, H1.Sublist H ∧ H'.Perm H1) (hp : Post (.tup [.agg ys, q]) H') : AQ Γ (FnQ Γ P fn Post) .ret E H := fun R a W hs ha => by
  obtain ⟨H1, h1, h2⟩ := hH
  obtain ⟨us, cs, hb, hsz, hts, hrl⟩ := hs.ok _ hm
  have hrl := hrl.take k
  rw [hv] at hrl
  have hl := run_loadVarK hg W b 0 (us.take k) (by rw [hrl.1, hk]) (fun i u hi => by
    rw [cell_of_row W b (0 + i) cs T' (0, 0) hb]
    rw [List.getElem?_take] at hi
    split at hi
    · rw [← hts, List.getElem?_take] at hi
      split at hi
      · simpa using hi
      · cases hi
    · cases hi)
  have hv' := (ha.slots t _ ht).val_inv
  have hq := ha.slots s _ hs'
  refine ⟨ha.defers, .tuple #[.agg (us.take k).toArray, a.eval (.tmp s)], ?_, _, _, H', R, rfl, hp, ?_, RelL.toTup (us := [.agg (us.take k).toArray, a.eval (.tmp s)]) (RelL.cons hrl.toAgg (RelL.cons hq RelL.nil))⟩
  · have : a.tmps.getD t undef = .pointer (some ⟨b, 0, none⟩) := hv'
    simp [results, hr, Act.eval] at *
    simp [this, asAddr, hl]
  · have := (hs.sub h1).perm h2
    exact ⟨this.mods, this.rlt, this.rsub, this.rnew, this.ok, this.own, this.disj⟩
end
end Go.Proofs.Ytiddmpmpjdnmeaa.A
