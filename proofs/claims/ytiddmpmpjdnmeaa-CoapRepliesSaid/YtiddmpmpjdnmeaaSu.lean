/-
  Two ways that meet again.
-/
import Derived.Test.YtiddmpmpjdnmeaaSt
namespace Go.Proofs.Ytiddmpmpjdnmeaa.A
open Go.RowKit L
set_option linter.unusedVariables false
set_option linter.unusedSimpArgs false
section
variable {Γ : Cx} {P : Program} {Q : Exit → Act → World → Prop} {E : Env} {H : List HE}
/-- Where the two ways meet. -/
def Mid (Γ : Cx) (Q : Exit → Act → World → Prop) (φ : Prop) (E1 : Env) (H1 : List HE) : Exit → Act → World → Prop := Exit.then (fun a W => φ ∧ ∃ R, RelS Γ R H1 W ∧ RelA Γ.N R W E1 a) Q
theorem wp_mid {c : Code} {a : Act} {W : World} {φ : Prop} {E1 : Env} {H1 : List HE} (h : c.wp P (Mid Γ Q φ E1 H1) a W) (k : φ → AQ Γ Q .normal E1 H1) : c.wp P Q a W := by
  refine wp_mono h ?_
  intro x a W hx
  cases x with
  | normal => obtain ⟨hφ, R, h1, h2⟩ := hx; exact k hφ R a W h1 h2
  | _ => exact hx
theorem AQ.midX {i : Nat} {φ : Prop} {E1 : Env} {H1 : List HE} (h : AQ Γ Q (.exit i) E H) : AQ Γ (Mid Γ Q φ E1 H1) (.exit i) E H := h
theorem AQ.midR {φ : Prop} {E1 : Env} {H1 : List HE} (h : AQ Γ Q .ret E H) : AQ Γ (Mid Γ Q φ E1 H1) .ret E H := h
theorem AW.joinK {t : Nat} {b : Bool} {x y : Code} (φ : Prop) (K E1 : Env) (H1 : List HE) (ht : look E t = some (.val (.bool b))) (hK : ∀ p ∈ K, look E p.1 = some p.2) (h1 : b = true → AW Γ P (Mid Γ Q φ (E1 ++ K) H1) x E H) (h2 : b = false → AW Γ P (Mid Γ Q φ (E1 ++ K) H1) y E H) (k : φ → AQ Γ Q .normal (E1 ++ K) H1) :
    AW Γ P Q (.cond (.tmp t) x y) E H := AW.cond b ht (fun hb R a W hs ha => wp_mid (h1 hb R a W hs ha) k) (fun hb R a W hs ha => wp_mid (h2 hb R a W hs ha) k)
theorem AQ.midK {φ : Prop} {K E1 : Env} {H1 : List HE} (hφ : φ) (hK : ∀ p ∈ K, look E p.1 = some p.2) (hE : ∀ p ∈ E1, look E p.1 = some p.2) (hH : ∃ H2, H2.Sublist H ∧ H1.Perm H2) : AQ Γ (Mid Γ Q φ (E1 ++ K) H1) .normal E H := fun R a W hs ha => by
  obtain ⟨H2, h1, h2⟩ := hH
  have hmem : ∀ {E : Env} {t : Nat} {v : AV}, look E t = some v → (t, v) ∈ E := by
    intro E
    induction E with
    | nil => intro t v h; cases h
    | cons p r ih =>
      intro t v h
      unfold look at h
      cases hb : Nat.beq p.1 t with
      | true => rw [hb] at h; simp at h; subst h; have := Nat.eq_of_beq_eq_true hb; subst this; exact List.mem_cons_self ..
      | false => rw [hb] at h; exact List.mem_cons_of_mem _ (ih h)
  exact ⟨hφ, R, (hs.sub h1).perm h2, ha.defers, ha.size, fun t v ht => ha.slots t v (env_app hE hK _ (hmem ht))⟩
theorem AQ.midK0 {φ : Prop} {E1 : Env} {H1 : List HE} (hφ : φ) (hE : ∀ p ∈ E1, look E p.1 = some p.2) (hH : ∃ H2, H2.Sublist H ∧ H1.Perm H2) : AQ Γ (Mid Γ Q φ E1 H1) .normal E H :=
  AQ.midK (K := E1) (E1 := []) hφ hE (fun p hp => absurd hp (by simp)) hH
/-- Where the two ways meet, told by a relation. -/
def MidI (Γ : Cx) (Q : Exit → Act → World → Prop) (K : Env) (I : Env → List HE → Prop) : Exit → Act → World → Prop := Exit.then (fun a W => ∃ E1 H1 R, I E1 H1 ∧ RelS Γ R H1 W ∧ RelA Γ.N R W (E1 ++ K) a) Q
theorem wp_midI {c : Code} {a : Act} {W : World} {K : Env} {I : Env → List HE → Prop} (h : c.wp P (MidI Γ Q K I) a W) (k : ∀ E1 H1, I E1 H1 → AQ Γ Q .normal (E1 ++ K) H1) : c.wp P Q a W := by
  refine wp_mono h ?_
  intro x a W hx
  cases x with
  | normal => obtain ⟨E1, H1, R, hI, h1, h2⟩ := hx; exact k E1 H1 hI R a W h1 h2
  | _ => exact hx
theorem AQ.midIX {i : Nat} {K : Env} {I : Env → List HE → Prop} (h : AQ Γ Q (.exit i) E H) : AQ Γ (MidI Γ Q K I) (.exit i) E H := h
theorem AQ.midIR {K : Env} {I : Env → List HE → Prop} (h : AQ Γ Q .ret E H) : AQ Γ (MidI Γ Q K I) .ret E H := h
theorem AW.joinI {t : Nat} {b : Bool} {x y : Code} (K : Env) (I : Env → List HE → Prop) (ht : look E t = some (.val (.bool b))) (hK : ∀ p ∈ K, look E p.1 = some p.2) (h1 : b = true → AW Γ P (MidI Γ Q K I) x E H) (h2 : b = false → AW Γ P (MidI Γ Q K I) y E H) (k : ∀ E1 H1, I E1 H1 → AQ Γ Q .normal (E1 ++ K) H1) :
    AW Γ P Q (.cond (.tmp t) x y) E H := AW.cond b ht (fun hb R a W hs ha => wp_midI (h1 hb R a W hs ha) k) (fun hb R a W hs ha => wp_midI (h2 hb R a W hs ha) k)
theorem AQ.midI {K : Env} {I : Env → List HE → Prop} (E1 : Env) (H1 : List HE) (hI : I E1 H1) (hK : ∀ p ∈ K, look E p.1 = some p.2) (hE : ∀ p ∈ E1, look E p.1 = some p.2) (hH : ∃ H2, H2.Sublist H ∧ H1.Perm H2) : AQ Γ (MidI Γ Q K I) .normal E H := fun R a W hs ha => by
  obtain ⟨H2, h1, h2⟩ := hH
  have hmem : ∀ {E : Env} {t : Nat} {v : AV}, look E t = some v → (t, v) ∈ E := by
    intro E
    induction E with
    | nil => intro t v h; cases h
    | cons p r ih =>
      intro t v h
      unfold look at h
      cases hb : Nat.beq p.1 t with
      | true => rw [hb] at h; simp at h; subst h; have := Nat.eq_of_beq_eq_true hb; subst this; exact List.mem_cons_self ..
      | false => rw [hb] at h; exact List.mem_cons_of_mem _ (ih h)
  exact ⟨E1, H1, R, hI, (hs.sub h1).perm h2, ha.defers, ha.size, fun t v ht => ha.slots t v (env_app hE hK _ (hmem ht))⟩

/-- Results out of a box, in other words: nil reads as nothing. -/
theorem FnQ.coe {Γ : Cx} {P : Program} {fn : Func} {Post : AV → List HE → Prop} {E : Env} {H : List HE} {r r' : AV} {H' : List HE} (h : AQ Γ (FnQ Γ P fn (fun q K => q = r ∧ K = H')) .ret E H) (hc : Coe r r') (hp : Post r' H') : AQ Γ (FnQ Γ P fn Post) .ret E H := fun R a W hs ha => by
  have := h R a W hs ha
  unfold FnQ at this ⊢
  obtain ⟨hd, v, hv, u, q, K, R', he, ⟨rfl, rfl⟩, h1, h2⟩ := this
  exact ⟨hd, v, hv, u, _, _, R', he, hp, h1, hc R' W u h2⟩
theorem Coe.tup {x y : List AV} (h : CoeL x y) : Coe (.tup x) (.tup y) := fun R W u hu => by
  obtain ⟨us, rfl, h1⟩ := hu.tup_inv
  exact (h R W us h1).toTup
end
end Go.Proofs.Ytiddmpmpjdnmeaa.A
