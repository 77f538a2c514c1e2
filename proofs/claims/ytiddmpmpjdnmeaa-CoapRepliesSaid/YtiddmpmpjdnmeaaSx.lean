/-
  []byte("..") of a constant: the row is marked, and read only from then on.
-/
import Derived.Test.YtiddmpmpjdnmeaaSw
namespace Go.Proofs.Ytiddmpmpjdnmeaa.A
open Go.RowKit L
set_option linter.unusedVariables false
set_option linter.unusedSimpArgs false
section
variable {Γ : Cx} {P : Program} {ops : Array Oper} {Q : Exit → Act → World → Prop} {E : Env} {H : List HE} {o : Oper} {rest : List Oper}
theorem heap_freeze {W : World} {b k : Nat} {cs : Array Value} {U : TypeId} (hb : W.heap[b]? = some (.cells cs U (0, 0))) :
    (W.freeze ⟨b, k, none⟩ 1).heap[b]? = some (.cells cs U (k, k + 1)) ∧ (∀ q, q ≠ b → (W.freeze ⟨b, k, none⟩ 1).heap[q]? = W.heap[q]?) ∧ (W.freeze ⟨b, k, none⟩ 1).heap.size = W.heap.size := by
  obtain ⟨hlt, he⟩ := Array.getElem?_eq_some_iff.1 hb
  unfold World.freeze
  rw [if_neg (by decide)]
  refine ⟨?_, fun q hq => ?_, by simp⟩
  · simp [Array.getElem?_modify, hb]
  · simp [Array.getElem?_modify, Ne.symm hq]
theorem AO.constBytes {T U d i b room c n : Nat} {x : Operand} {xs : List AV} {l : List UInt8} [hT : TyD P T (.slice U)] [hU : TyD P U (.int .u8)] (ho : o.op = .convert T T x) (hgd : o.guard = none) (hd : o.dst = some d) (hN : d < Γ.N)
    (hx : ev E x = some (.val (.slice (some ⟨b, 0, none⟩) n c))) (hi : H[i]? = some (.blk b U room xs)) (hl : xs = bytesA l) (hn : n = l.length) (hc : n ≤ c ∧ c ≤ maxLen) (next : AO Γ P ops Q rest ((d, roB l) :: E) (H.eraseIdx i)) : AO Γ P ops Q (o :: rest) E H := fun R a W hs ha => by
  have hmem := List.mem_of_getElem? hi
  obtain ⟨hlt, he⟩ := List.getElem?_eq_some_iff.1 hi
  obtain ⟨us, cs, hb, hsz, ht, hr⟩ := hs.ok _ hmem
  obtain ⟨f1, f2, f3⟩ := heap_freeze (k := cs.size) hb
  have hsh : W.shape? b = some (U, cs.size) := by unfold World.shape?; rw [hb]
  have hrun : (execOp a.eval o).run P W = .ok (.value (.slice (some ⟨b, 0, none⟩) n c)) (W.freeze ⟨b, cs.size, none⟩ 1) := by
    simp [execOp, ho, (ha.ev hx).val_inv, convert, run_underlying hT.ax, run_underlying hU.ax, markStringish, hsh]
  have hbR : ¬ R b := (hs.own _ hmem b rfl).2
  have hm : Mods (fun q => q = b) W (W.freeze ⟨b, cs.size, none⟩ 1) := ⟨by unfold World.freeze; rw [if_neg (by decide)], by unfold World.freeze; rw [if_neg (by decide)], by unfold World.freeze; rw [if_neg (by decide)], by rw [f3]; exact Nat.le_refl _, fun q hq hqb => f2 q hqb⟩
  have hW : ∀ q, R q → (W.freeze ⟨b, cs.size, none⟩ 1).heap[q]? = W.heap[q]? := fun q hq => f2 q fun e => hbR (e ▸ hq)
  have hRS : ∀ q, R q → R q ∨ q = b := fun q h => .inl h
  have hsub : (H.eraseIdx i).Sublist H := List.eraseIdx_sublist _ _
  have hdis : ∀ f ∈ H.eraseIdx i, ∀ q, f.foot q → q ≠ b := fun f hf q hq hqb => by
    obtain ⟨j, hj, rfl⟩ := List.getElem_of_mem hf
    rw [List.getElem_eraseIdx] at hq
    rw [List.length_eraseIdx, if_pos hlt] at hj
    split at hq
    · exact (List.pairwise_iff_getElem.1 hs.disj j i (by omega) hlt (by omega)) q hq (by rw [he]; exact hqb)
    · exact (List.pairwise_iff_getElem.1 hs.disj i (j + 1) hlt (by omega) (by omega)) q (by rw [he]; exact hqb) hq
  unfold wpList
  rw [if_pos (by unfold Region.wanted; rw [hgd])]
  refine .inl ?_
  unfold Oper.wp
  rw [hrun]
  show wpList P ops Q rest (a.put o.dst _) _
  rw [hd]
  refine next (fun q => R q ∨ q = b) _ _ ⟨Mods.then hs.mods hm fun q hq hqb => ?_, ?_, fun q hq => .inl (hs.rsub q hq), ?_, fun e he => HE.ok_mono hRS hW (by rw [f3]; exact Nat.le_refl _) (fun q hq => f2 q (hdis e he q hq)) (hs.ok e (hsub.subset he)), ?_, hs.disj.sublist hsub⟩ ((ha.mono hRS hW).put hN ?_)
  · rcases (hs.own _ hmem b rfl).1 with h | h
    · omega
    · rw [hqb]; exact h
  · rintro q (hq | hq)
    · rw [f3]; exact hs.rlt q hq
    · rw [f3, hq]; exact (Array.getElem?_eq_some_iff.1 hb).1
  · rintro q (hq | hq)
    · exact hs.rnew q hq
    · exact .inr (hq ▸ (hs.own _ hmem b rfl).1)
  · intro e he q hq
    refine ⟨(hs.own e (hsub.subset he) q hq).1, ?_⟩
    rintro (h | h)
    · exact (hs.own e (hsub.subset he) q hq).2 h
    · exact hdis e he q hq h
  · subst hl; subst hn
    have hlen : us.length = l.length := by rw [hr.1]; simp [bytesA]
    unfold roB
    refine .ro false l.length (bytesA l) b 0 c (fun j => us.getD j undef) (.inr rfl) (fun j hj => ?_) (fun j hj => (hr.mono hRS hW).2 j hj) hc.1 hc.2 (fun h => by cases h)
    have hj' : j < us.length := by rw [hlen]; simpa [bytesA] using hj
    have h9 : us[j]? = cs[j]? := by
      rw [← ht, List.getElem?_take, if_pos (by simpa [bytesA] using hj)]; simp
    simp only [World.cell?, f1, Nat.zero_add]
    have h10 : cs[j]? = some us[j] := by rw [← h9]; simp [hj']
    simpa [hj'] using h10
end
end Go.Proofs.Ytiddmpmpjdnmeaa.A
