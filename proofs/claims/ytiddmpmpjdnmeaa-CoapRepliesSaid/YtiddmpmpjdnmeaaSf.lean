/-
  Short forms of the walk's steps, and small facts that they ask.
-/
import Derived.Test.YtiddmpmpjdnmeaaSe
namespace Go.Proofs.Ytiddmpmpjdnmeaa.A
open Go.RowKit L
set_option linter.unusedVariables false
set_option linter.unusedSimpArgs false

section
variable {Γ : Cx} {P : Program} {Q : Exit → Act → World → Prop} {E : Env} {H : List HE} {N : Nat} {o : Oper} {ops : Array Oper} {rest : List Oper}

theorem AO.opB {d T room : Nat} {v : Nat → AV} {xs : List AV} (h : OpW P Γ.N o E H (NewBlk v T room xs)) (hw : wantedIs ops E o = some true) (hd : o.dst = some d) (hN : Nat.ble (d + 1) Γ.N = true) (k : ∀ b, AO Γ P ops Q rest ((d, v b) :: E) (.blk b T room xs :: H)) :
    AO Γ P ops Q (o :: rest) E H := AO.opN h hw hd hN (by rintro _ _ ⟨b, rfl, rfl⟩; exact k b)
theorem AO.opRow {d U k n : Nat} {xs : List AV} (h : OpW P Γ.N o E H (NewRow U k n xs)) (hw : wantedIs ops E o = some true) (hd : o.dst = some d) (hN : Nat.ble (d + 1) Γ.N = true) (next : ∀ v : Value, v.oneCell' = true → AO Γ P ops Q rest ((d, .val v) :: E) (.row v U k n xs :: H)) :
    AO Γ P ops Q (o :: rest) E H := AO.opN h hw hd hN (by rintro _ _ ⟨v, rfl, hv, rfl⟩; exact next v hv)
theorem AO.append' {T T2 U k bs d : Nat} {z : Value} {s x : Operand} {v : Value} {w : AV} {i n m : Nat} {xs ys zs : List AV} {H' : Value → List HE} [hs : TyS P T U k bs z] (ho : o.op = .call { callee := .builtin .append, args := #[s, x], argTypes := #[T, T2] }) (hgd : o.guard = none) (hd : o.dst = some d) (hN : Nat.ble (d + 1) Γ.N = true)
    (hz : Nat.beq z.cells.size k = true) (hk : Nat.ble 1 k = true) (hv : ev E s = some (.val v)) (hx : ev E x = some w) (hi : H[i]? = some (.row v U k n xs)) (hsrc : SrcA P T2 k H w m ys) (hone : ys.all AV.one = true) (hn : n + m ≤ maxLen) (hby : (n + m) * bs ≤ 140737488355328)
    (hzs : xs ++ ys = zs) (hH : ∀ v', H.set i (.row v' U k (n + m) zs) = H' v')
    (next : ∀ v' : Value, v'.oneCell' = true → AO Γ P ops Q rest ((d, .val v') :: E) (H' v')) : AO Γ P ops Q (o :: rest) E H :=
  AO.append ho hgd hd (Nat.le_of_ble_eq_true hN) hz hk hv hx hi hsrc hone hn hby fun v' h => by rw [hzs, hH]; exact next v' h

theorem wI64 {x : Int} (h : -9223372036854775808 ≤ x ∧ x ≤ 9223372036854775807) : IntKind.i64.wrap x = x := IntWalk.i64_in _ h
theorem wU64 {x : Int} (h : 0 ≤ x ∧ x ≤ 18446744073709551615) : IntKind.u64.wrap x = x := by rw [IntKind.wrap_u64]; exact Int.emod_eq_of_lt h.1 (by omega)
theorem wU8 {x : Int} (h : 0 ≤ x ∧ x ≤ 255) : IntKind.u8.wrap x = x := by
  show (if false = true ∧ x % (2 ^ 8) ≥ 2 ^ (8 - 1) then x % (2 ^ 8) - 2 ^ 8 else x % (2 ^ 8)) = x
  rw [if_neg (by simp)]; exact Int.emod_eq_of_lt h.1 (by omega)

theorem bTrue {p : Prop} [Decidable p] (h : p) : decide p = true := decide_eq_true h
theorem bFalse {p : Prop} [Decidable p] (h : ¬ p) : decide p = false := decide_eq_false h

/-- 'nil' reads as nothing. -/
theorem RelV.nilRo {R : Nat → Prop} {W : World} {u : Value} (h : RelV R W (.val (.slice none 0 0)) u) : RelV R W (.ro false 0 []) u := by
  rw [h.val_inv]; exact .emp _ _ _ (fun h => by cases h) (Nat.zero_le _)
theorem RelV.unfull {R : Nat → Prop} {W : World} {full : Bool} {n : Nat} {xs : List AV} {u : Value} (h : RelV R W (.ro full n xs) u) : RelV R W (.ro false n xs) u := by
  cases h with
  | emp _ a cap h1 h2 => exact .emp _ a cap (fun h => by cases h) h2
  | ro _ _ _ b off cap us hb hc hr h1 h2 h3 => exact .ro _ _ _ b off cap us hb hc hr h1 h2 (fun h => by cases h)
theorem RelA.shadow {R : Nat → Prop} {W : World} {a : Act} (ha : RelA N R W E a) {t : Nat} {w : AV} (h : RelV R W w (a.eval (.tmp t))) : RelA N R W ((t, w) :: E) a :=
  ⟨ha.defers, ha.size, fun s v hs => by
    unfold look at hs
    cases hb : Nat.beq t s with
    | true => rw [hb] at hs; cases hs; have := Nat.eq_of_beq_eq_true hb; subst this; exact h
    | false => rw [hb] at hs; exact ha.slots s v hs⟩
theorem G.nilRo {X : Act → World → Prop} (t : Nat) (ht : look E t = some (.val (.slice none 0 0))) (k : G Γ ((t, .ro false 0 []) :: E) H X) : G Γ E H X := fun R a W hs ha =>
  k R a W hs (ha.shadow (ha.slots t _ ht).nilRo)
theorem G.unfull {X : Act → World → Prop} (t : Nat) {full : Bool} {n : Nat} {xs : List AV} (ht : look E t = some (.ro full n xs)) (k : G Γ ((t, .ro false n xs) :: E) H X) : G Γ E H X := fun R a W hs ha =>
  k R a W hs (ha.shadow (ha.slots t _ ht).unfull)

/-- The bool of a temporary, either way. -/
theorem G.split {X : Act → World → Prop} (t : Nat) {b : Bool} (ht : look E t = some (.val (.bool b))) (k1 : b = true → G Γ ((t, .val (.bool true)) :: E) H X) (k2 : b = false → G Γ ((t, .val (.bool false)) :: E) H X) : G Γ E H X := fun R a W hs ha => by
  have hv := (ha.slots t _ ht).val_inv
  cases b
  · exact k2 rfl R a W hs (ha.shadow (by rw [hv]; exact .val _))
  · exact k1 rfl R a W hs (ha.shadow (by rw [hv]; exact .val _))
def guardSlot (ops : Array Oper) (o : Oper) : Option Nat := match o.guard with | none => none | some (g, _) => (ops[g]?).bind (·.dst)
theorem AO.splitGuard {t : Nat} {b : Bool} (hg : guardSlot ops o = some t) (ht : look E t = some (.val (.bool b))) (k1 : b = true → AO Γ P ops Q (o :: rest) ((t, .val (.bool true)) :: E) H) (k2 : b = false → AO Γ P ops Q (o :: rest) ((t, .val (.bool false)) :: E) H) :
    AO Γ P ops Q (o :: rest) E H := G.split t ht k1 k2
theorem AW.split {t : Nat} {b : Bool} {x y : Code} (ht : look E t = some (.val (.bool b))) (k1 : b = true → AW Γ P Q x E H) (k2 : b = false → AW Γ P Q y E H) : AW Γ P Q (.cond (.tmp t) x y) E H := AW.cond b ht k1 k2

theorem envNil {P : Nat × AV → Prop} : ∀ p ∈ ([] : Env), P p := fun _ h => by cases h
theorem envCons {t : Nat} {v : AV} {r : Env} (h : look E t = some v) (hr : ∀ p ∈ r, look E p.1 = some p.2) : ∀ p ∈ (t, v) :: r, look E p.1 = some p.2 := fun p hp => by
  rcases List.mem_cons.1 hp with rfl | hp
  · exact h
  · exact hr p hp

theorem at_map {α : Type} {zs : List α} {g : α → AV} {i j : Nat} (d : α) (h : i = j) (hj : j < zs.length) : (zs.map g)[i]? = some (g (zs.getD j d)) := by
  subst h
  rw [List.getElem?_map, List.getElem?_eq_getElem hj]
  simp [List.getD, hj]

end
end Go.Proofs.Ytiddmpmpjdnmeaa.A
