/-
  What own rows and read only slices hold, in other words.
-/
import Derived.Test.YtiddmpmpjdnmeaaSy
import Derived.Test.YtiddmpmpjdnmeaaSv
namespace Go.Proofs.Ytiddmpmpjdnmeaa.A
open Go.RowKit L
set_option linter.unusedVariables false
set_option linter.unusedSimpArgs false
section
variable {Γ : Cx} {P : Program} {Q : Exit → Act → World → Prop} {E : Env} {H : List HE} {N : Nat} {o : Oper} {ops : Array Oper} {rest : List Oper}
theorem CoeL.app {a b x y : List AV} (h : CoeL a b) (k : CoeL x y) : CoeL (a ++ x) (b ++ y) := fun R W us hu => by
  induction a generalizing b us with
  | nil =>
    have hb : b = [] := by
      have := (h R W [] RelL.nil).1
      exact List.eq_nil_of_length_eq_zero this.symm
    subst hb
    exact k R W us hu
  | cons u a ih =>
    have h1 : us.take (a.length + 1) ++ us.drop (a.length + 1) = us := List.take_append_drop ..
    have h2 := hu.take (a.length + 1)
    have h3 := hu.drop (a.length + 1)
    rw [show ((u :: a) ++ x).take (a.length + 1) = u :: a by simp] at h2
    rw [show ((u :: a) ++ x).drop (a.length + 1) = x by simp] at h3
    rw [← h1]
    exact RelL.app (h R W _ h2) (k R W _ h3)
theorem Coe.ro {full : Bool} {n : Nat} {xs ys : List AV} (h : CoeL xs ys) : Coe (.ro full n xs) (.ro full n ys) := fun R W u hu => by
  cases hu with
  | emp _ a cap h1 h2 =>
    have hy : ys = [] := List.eq_nil_of_length_eq_zero (h R W [] RelL.nil).1.symm
    subst hy
    exact .emp _ a cap h1 h2
  | ro _ _ _ b off cap us hb hc hr h1 h2 h3 =>
    have hl : RelL R W xs ((List.range xs.length).map us) := ⟨by simp, fun j hj => by simpa [hj] using hr j hj⟩
    have hk := h R W _ hl
    have he : ys.length = xs.length := by have := hk.1; simpa using this.symm
    refine .ro _ _ _ b off cap us hb (fun j hj => hc j (by omega)) (fun j hj => ?_) h1 h2 h3
    have := hk.2 j hj
    rw [he] at hj
    simpa [hj] using this
theorem G.coeRow {X : Act → World → Prop} (i : Nat) {v : Value} {T sz n : Nat} {xs : List AV} (m : Nat) (ys : List AV) (hi : H[i]? = some (.row v T sz n xs)) (hm : n = m) (h : CoeL xs ys) (k : G Γ E (H.set i (.row v T sz m ys)) X) : G Γ E H X := fun R a W hs ha => by
  subst hm
  obtain ⟨us, h1, h2⟩ := hs.ok _ (List.mem_of_getElem? hi)
  exact k R a W (hs.setSame hi (fun b hb => hb) ⟨us, h1, h R W us h2⟩) ha
theorem G.coeBlk {X : Act → World → Prop} (i : Nat) {b T room : Nat} {xs : List AV} (ys : List AV) (hl : ys.length = xs.length) (hi : H[i]? = some (.blk b T room xs)) (h : CoeL xs ys) (k : G Γ E (H.set i (.blk b T room ys)) X) : G Γ E H X := fun R a W hs ha => by
  obtain ⟨us, cs, h1, h2, h3, h4⟩ := hs.ok _ (List.mem_of_getElem? hi)
  exact k R a W (hs.setSame hi (fun b hb => hb) ⟨us, cs, h1, h2, by rw [hl]; exact h3, h R W us h4⟩) ha
end
end Go.Proofs.Ytiddmpmpjdnmeaa.A
