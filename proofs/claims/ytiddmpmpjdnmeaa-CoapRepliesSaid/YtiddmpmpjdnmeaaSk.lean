/-
  Over a symbolic state: calls whose arguments read in another way, too.
-/
import Derived.Test.YtiddmpmpjdnmeaaSj
namespace Go.Proofs.Ytiddmpmpjdnmeaa.A
open Go.RowKit L
set_option linter.unusedVariables false
set_option linter.unusedSimpArgs false

def Coe (a b : AV) : Prop := ∀ R W u, RelV R W a u → RelV R W b u
def CoeL (a b : List AV) : Prop := ∀ R W us, RelL R W a us → RelL R W b us
theorem Coe.rfl {a : AV} : Coe a a := fun _ _ _ h => h
theorem Coe.nil : Coe (.val (.slice none 0 0)) (.ro false 0 []) := fun _ _ _ h => h.nilRo
theorem Coe.unfull {full : Bool} {n : Nat} {xs : List AV} : Coe (.ro full n xs) (.ro false n xs) := fun _ _ _ h => h.unfull
theorem CoeL.nil : CoeL [] [] := fun _ _ _ h => h
theorem CoeL.cons {a b : AV} {x y : List AV} (h : Coe a b) (hs : CoeL x y) : CoeL (a :: x) (b :: y) := fun R W us hu => by
  obtain ⟨u, r, rfl, h1, h2⟩ := hu.uncons
  exact RelL.cons (h R W u h1) (hs R W r h2)
theorem CoeL.refl {a : List AV} : CoeL a a := fun _ _ _ h => h
theorem Coe.agg {x y : List AV} (h : CoeL x y) : Coe (.agg x) (.agg y) := fun R W u hu => by
  obtain ⟨us, rfl, h1⟩ := hu.agg_inv
  exact (h R W us h1).toAgg
theorem Sp.coe {P : Program} {f : FuncId} {args args' : List AV} {H0 : List HE} {Post : AV → List HE → Prop} (h : Sp P f args' H0 Post) (hc : CoeL args args') : Sp P f args H0 Post := fun W R us h1 h2 h3 h4 => h W R us h1 h2 h3 (hc R W us h4)

section
variable {Γ : Cx} {P : Program} {Q : Exit → Act → World → Prop} {E : Env} {H : List HE} {N : Nat} {o : Oper} {ops : Array Oper} {rest : List Oper}
theorem O.callC {f : FuncId} {xs : List Operand} {ats : Array TypeId} {args args' : List AV} {Post : AV → List HE → Prop} {fn : Func} (ho : o.op = .call { callee := .value (.func f), args := xs.toArray, argTypes := ats }) (hfn : P.funcs[f]? = some fn) (hn : (fn.name == "runtime.NumGoroutine") = false) (hb : fn.body.isNone = false)
    (hx : evs E xs = some args) (h : Sp P f args' [] Post) (hc : CoeL args args') : OpW P N o E H Post := O.call ho hfn hn hb hx (h.coe hc)
/-- The same, in other words. -/
theorem G.re {X : Act → World → Prop} (t : Nat) (b : AV) (ht : look E t = some b) (k : G Γ ((t, b) :: E) H X) : G Γ E H X := fun R a' W hs ha => k R a' W hs (ha.shadow (ha.slots t _ ht))
theorem G.coe {X : Act → World → Prop} (t : Nat) {a b : AV} (ht : look E t = some a) (h : Coe a b) (k : G Γ ((t, b) :: E) H X) : G Γ E H X := fun R a' W hs ha => k R a' W hs (ha.shadow (h R W _ (ha.slots t _ ht)))
end

theorem tmod_fix2 (v n : Int) (h : 0 < n) : (if v.tmod n < 0 then v.tmod n + n else v.tmod n) = v % n := by
  have h1 := Int.tmod_add_mul_tdiv v n
  have h2 : v.tmod n < n := Int.tmod_lt_of_pos v h
  have h3 : -n < v.tmod n := by
    rcases Int.le_total 0 v with hv | hv
    · have := Int.tmod_nonneg n hv; omega
    · have := Int.lt_tmod_of_pos v h; omega
  split
  · rename_i hlt
    have e : v = v.tmod n + n + n * (v.tdiv n - 1) := by rw [Int.mul_sub]; omega
    rw [e, Int.add_mul_emod_self_left, ← e, Int.emod_eq_of_lt (by omega) (by omega)]
  · have e : v = v.tmod n + n * (v.tdiv n) := by omega
    rw [e, Int.add_mul_emod_self_left, ← e, Int.emod_eq_of_lt (by omega) (by omega)]
end Go.Proofs.Ytiddmpmpjdnmeaa.A
