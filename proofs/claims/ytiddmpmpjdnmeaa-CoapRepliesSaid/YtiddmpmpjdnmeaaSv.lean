/-
  A row that lies in a cell of an own block becomes read-only.
-/
import Derived.Test.YtiddmpmpjdnmeaaSu
namespace Go.Proofs.Ytiddmpmpjdnmeaa.A
open Go.RowKit L
set_option linter.unusedVariables false
set_option linter.unusedSimpArgs false
section
variable {Γ : Cx} {P : Program} {Q : Exit → Act → World → Prop} {E : Env} {H : List HE}
theorem G.freezeK {X : Act → World → Prop} (i : Nat) {v : Value} {T sz n : Nat} {xs : List AV} (hi : H[i]? = some (.row v T sz n xs))
    (k : ∀ R a W, RelS Γ R (H.eraseIdx i) W → RelA Γ.N R W E a → RelV R W (.ro false n xs) v → X a W) : G Γ E H X := fun R a W hs ha => by
  have hmem := List.mem_of_getElem? hi
  obtain ⟨hlt, he⟩ := List.getElem?_eq_some_iff.1 hi
  have hsub : (H.eraseIdx i).Sublist H := List.eraseIdx_sublist _ _
  have hdis : ∀ f ∈ H.eraseIdx i, ∀ b, f.foot b → ¬ (HE.row v T sz n xs).foot b := fun f hf b hb hb' => by
    obtain ⟨j, hj, rfl⟩ := List.getElem_of_mem hf
    rw [List.getElem_eraseIdx] at hb
    rw [List.length_eraseIdx, if_pos hlt] at hj
    split at hb
    · exact (List.pairwise_iff_getElem.1 hs.disj j i (by omega) hlt (by omega)) b hb (by rw [he]; exact hb')
    · exact (List.pairwise_iff_getElem.1 hs.disj i (j + 1) hlt (by omega) (by omega)) b (by rw [he]; exact hb') hb
  have hRS : ∀ b, R b → R b ∨ (HE.row v T sz n xs).foot b := fun b h => .inl h
  obtain ⟨us, hown, hr⟩ := hs.ok _ hmem
  refine k (fun b => R b ∨ (HE.row v T sz n xs).foot b) a W ⟨hs.mods, ?_, fun b hb => .inl (hs.rsub b hb), ?_, fun e he => HE.ok_mono hRS (fun _ _ => rfl) (Nat.le_refl _) (fun _ _ => rfl) (hs.ok e (hsub.subset he)), ?_, hs.disj.sublist hsub⟩ (ha.mono hRS (fun _ _ => rfl)) ?_
  · rintro b (hb | hb)
    · exact hs.rlt b hb
    · exact HE.ok_lt (hs.ok _ hmem) hb
  · rintro b (hb | hb)
    · exact hs.rnew b hb
    · exact .inr (hs.own _ hmem b hb).1
  · intro e he b hb
    refine ⟨(hs.own e (hsub.subset he) b hb).1, ?_⟩
    rintro (h | h)
    · exact (hs.own e (hsub.subset he) b hb).2 h
    · exact hdis e he b hb h
  · have hr' := hr.mono hRS (W' := W) (fun _ _ => rfl)
    rcases hown.2 with ⟨rfl, rfl⟩ | ⟨g, cap, cur, rfl, hbg, hg, h1, h2, h3, h4⟩
    · have : xs = [] := List.eq_nil_of_length_eq_zero (by rw [← hr.1, hown.1]; simp)
      subst this
      exact .emp _ _ _ (fun h => by cases h) (Nat.zero_le _)
    · refine .ro false n xs g 0 cap (fun j => us.getD j undef) (.inr rfl) (fun j hj => ?_) (fun j hj => hr'.2 j hj) h1 h2 (fun h => by cases h)
      have hj' : j < us.length := by rw [hr.1]; exact hj
      have := hown.cells (g := g) rfl j us[j] (by simp [hj'])
      rw [addr_add] at this
      rw [this]
      simp [List.getD, hj']
theorem G.freezeCell {X : Act → World → Prop} (i j c : Nat) {v : Value} {T sz n : Nat} {xs : List AV} {b T' room : Nat} {ys : List AV} (hi : H[i]? = some (.row v T sz n xs)) (hj : (H.eraseIdx i)[j]? = some (.blk b T' room ys)) (hc : ys[c]? = some (.val v))
    (k : G Γ E ((H.eraseIdx i).set j (.blk b T' room (ys.set c (.ro false n xs)))) X) : G Γ E H X := G.freezeK i hi fun R a W hs ha hv => by
  obtain ⟨us, cs, h1, h2, h3, h4⟩ := hs.ok _ (List.mem_of_getElem? hj)
  obtain ⟨u, hu1, hu2⟩ := h4.get hc
  have hu3 := hu2.val_inv
  subst hu3
  refine k R a W (hs.setSame hj (fun b hb => hb) ⟨us, cs, h1, h2, by rw [List.length_set]; exact h3, ?_⟩) ha
  have h5 := h4.set c hv
  rwa [show us.set c u = us from List.ext_getElem? fun q => by
    rcases Nat.decEq c q with h | h
    · rw [List.getElem?_set_ne h]
    · subst h; rw [List.getElem?_set_self (List.getElem?_eq_some_iff.1 hu1).1, hu1]] at h5
theorem G.coeCell {X : Act → World → Prop} (j c : Nat) {b T' room : Nat} {ys : List AV} {u w : AV} (hj : H[j]? = some (.blk b T' room ys)) (hc : ys[c]? = some u) (hw : Coe u w)
    (k : G Γ E (H.set j (.blk b T' room (ys.set c w))) X) : G Γ E H X := fun R a W hs ha => by
  obtain ⟨us, cs, h1, h2, h3, h4⟩ := hs.ok _ (List.mem_of_getElem? hj)
  obtain ⟨z, hu1, hu2⟩ := h4.get hc
  refine k R a W (hs.setSame hj (fun b hb => hb) ⟨us, cs, h1, h2, by rw [List.length_set]; exact h3, ?_⟩) ha
  have h5 := h4.set c (hw R W _ hu2)
  rwa [show us.set c z = us from List.ext_getElem? fun q => by
    rcases Nat.decEq c q with h | h
    · rw [List.getElem?_set_ne h]
    · subst h; rw [List.getElem?_set_self (List.getElem?_eq_some_iff.1 hu1).1, hu1]] at h5
end
end Go.Proofs.Ytiddmpmpjdnmeaa.A
