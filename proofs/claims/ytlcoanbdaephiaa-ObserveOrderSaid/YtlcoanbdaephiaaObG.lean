/-
  Layer 19: Mod; the law's own example.
-/
import Derived.Test.YtlcoanbdaephiaaSk
import Derived.Test.YtlcoanbdaephiaaObF
namespace Go.Proofs.Ytlcoanbdaephiaa.Ob
open Go.RowKit L A
set_option linter.unusedVariables false
set_option linter.unusedSimpArgs false
attribute [local irreducible] AW AQ AO

theorem mod_fn (v n : Int) (h1 : 0 < n) (h2 : n ≤ 4611686018427387904) : Sp Try.prog 17 [.val (.int .i64 v), .val (.int .i64 n)] [] (Is (.val (.int .i64 (v % n)))) := by
  have hf := tmod_fix2 v n h1
  have hlt : v.tmod n < n := Int.tmod_lt_of_pos v h1
  have hge : -n < v.tmod n := by
    rcases Int.le_total 0 v with hv | hv
    · have := Int.tmod_nonneg n hv; omega
    · have := Int.lt_tmod_of_pos v h1; omega
  refine Sp.enter Try.func17 rfl _ Try.ntmps17 rfl (fun w0 R0 => ?_)
  refine AW.seq ?_
  refine AW.region ?_
  refine AO.op (O.assign rfl rfl) rfl rfl rfl ?_
  refine AO.nil ?_
  refine AQ.thenN ?_
  refine AW.seq ?_
  refine AW.region ?_
  refine AO.op (O.move rfl rfl) rfl rfl rfl ?_
  refine AO.op (O.move rfl rfl) rfl rfl rfl ?_
  refine AO.op (O.rem rfl rfl rfl (by omega) rfl) rfl rfl rfl ?_
  refine AO.op (O.assign rfl rfl) rfl rfl rfl ?_
  refine AO.nil ?_
  refine AQ.thenN ?_
  refine AW.seq ?_
  refine AW.seq ?_
  refine AW.region ?_
  refine AO.op (O.move rfl rfl) rfl rfl rfl ?_
  refine AO.op (O.lss rfl rfl rfl (by first | exact bTrue (by omega) | exact bFalse (by omega) | assumption | rfl)) rfl rfl rfl ?_
  refine AO.nil ?_
  refine AQ.thenN ?_
  refine AW.split rfl (fun h => ?_) (fun h => ?_)
  · skip
    have h : v.tmod n < 0 := of_decide_eq_true h
    rw [if_pos h] at hf
    refine AW.region ?_
    refine AO.op (O.move rfl rfl) rfl rfl rfl ?_
    refine AO.op (O.move rfl rfl) rfl rfl rfl ?_
    refine AO.op (O.add rfl rfl rfl (by first | exact wI64 (by omega) | rfl)) rfl rfl rfl ?_
    refine AO.op (O.assign rfl rfl) rfl rfl rfl ?_
    refine AO.nil ?_
    refine AQ.thenN ?_
    refine AW.seq ?_
    refine AW.region ?_
    refine AO.op (O.move rfl rfl) rfl rfl rfl ?_
    refine AO.op (O.assign rfl rfl) rfl rfl rfl ?_
    refine AO.nil ?_
    refine AQ.thenN ?_
    refine AW.ret ?_
    refine AQ.ret1 rfl rfl ⟨_, List.nil_sublist _, .nil⟩ (⟨by rw [hf], rfl⟩)
  · skip
    have h : ¬ v.tmod n < 0 := of_decide_eq_false h
    rw [if_neg h] at hf
    refine AW.skip ?_
    refine AQ.thenN ?_
    refine AW.seq ?_
    refine AW.region ?_
    refine AO.op (O.move rfl rfl) rfl rfl rfl ?_
    refine AO.op (O.assign rfl rfl) rfl rfl rfl ?_
    refine AO.nil ?_
    refine AQ.thenN ?_
    refine AW.ret ?_
    refine AQ.ret1 rfl rfl ⟨_, List.nil_sublist _, .nil⟩ (⟨by rw [hf], rfl⟩)

theorem aw1 : Sp Try.prog 18 [roW [], .val (.int .i64 1), roB [1], roB [9], .val (.int .i64 0)] [] (Is (.tup [roW [⟨1, [1], [9], 0, 0⟩], .val (.int .i64 0)])) :=
  register_fn [] ⟨by simp, fun w hw => by cases hw⟩ 1 [1] [9] 0 (by simp) (by simp)
theorem aw2 : Sp Try.prog 18 [roW [⟨1, [1], [9], 0, 0⟩], .val (.int .i64 1), roB [2], roB [9], .val (.int .i64 0)] [] (Is (.tup [roW [⟨1, [2], [9], 0, 0⟩], .val (.int .i64 0)])) :=
  register_fn [⟨1, [1], [9], 0, 0⟩] ⟨by simp, fun w hw => by simp at hw; subst hw; simp⟩ 1 [2] [9] 0 (by simp) (by simp)
set_option maxHeartbeats 1000000 in
theorem awake_fn : Sp Try.prog 11 [] [] (Is (.val (.bool true))) := by
  refine Sp.enter Try.func11 rfl _ Try.ntmps11 rfl (fun w0 R0 => ?_)
  refine AW.seq ?_
  refine AW.region ?_
  refine AO.op (O.assign rfl rfl) rfl rfl rfl ?_
  refine AO.nil ?_
  refine AQ.thenN ?_
  refine AW.seq ?_
  refine AW.region ?_
  refine AO.opB (O.buildSlice rfl rfl rfl (by rfl) (by rfl) (by rfl) (by rfl)) rfl rfl rfl ?_
  intro B
  refine AO.g ?_
  first | (refine G.freezeSl 0 5 rfl rfl ⟨Nat.le_refl _, by unfold maxLen; omega⟩ ?_) | (refine G.freezeSl 1 5 rfl rfl ⟨Nat.le_refl _, by unfold maxLen; omega⟩ ?_) | (refine G.freezeSl 2 5 rfl rfl ⟨Nat.le_refl _, by unfold maxLen; omega⟩ ?_) | (refine G.freezeSl 3 5 rfl rfl ⟨Nat.le_refl _, by unfold maxLen; omega⟩ ?_) | (refine G.freezeSl 4 5 rfl rfl ⟨Nat.le_refl _, by unfold maxLen; omega⟩ ?_) | (refine G.freezeSl 5 5 rfl rfl ⟨Nat.le_refl _, by unfold maxLen; omega⟩ ?_)
  refine G.unfull 5 rfl ?_
  refine AO.u ?_
  dsimp only [List.eraseIdx]
  refine AO.opB (O.buildSlice rfl rfl rfl (by rfl) (by rfl) (by rfl) (by rfl)) rfl rfl rfl ?_
  intro B
  refine AO.g ?_
  first | (refine G.freezeSl 0 6 rfl rfl ⟨Nat.le_refl _, by unfold maxLen; omega⟩ ?_) | (refine G.freezeSl 1 6 rfl rfl ⟨Nat.le_refl _, by unfold maxLen; omega⟩ ?_) | (refine G.freezeSl 2 6 rfl rfl ⟨Nat.le_refl _, by unfold maxLen; omega⟩ ?_) | (refine G.freezeSl 3 6 rfl rfl ⟨Nat.le_refl _, by unfold maxLen; omega⟩ ?_) | (refine G.freezeSl 4 6 rfl rfl ⟨Nat.le_refl _, by unfold maxLen; omega⟩ ?_) | (refine G.freezeSl 5 6 rfl rfl ⟨Nat.le_refl _, by unfold maxLen; omega⟩ ?_)
  refine G.unfull 6 rfl ?_
  refine AO.u ?_
  dsimp only [List.eraseIdx]
  first | (refine AO.op (O.call rfl Try.func18 rfl rfl rfl (aw1)) rfl rfl rfl ?_) | (refine AO.op (O.call rfl Try.func18 rfl rfl rfl (aw2)) rfl rfl rfl ?_) | (refine AO.op (O.callC rfl Try.func18 rfl rfl rfl (aw1) (by repeat (first | exact CoeL.nil | refine CoeL.cons Coe.rfl ?_ | refine CoeL.cons Coe.nil ?_ | refine CoeL.cons Coe.unfull ?_))) rfl rfl rfl ?_) | (refine AO.op (O.callC rfl Try.func18 rfl rfl rfl (aw2) (by repeat (first | exact CoeL.nil | refine CoeL.cons Coe.rfl ?_ | refine CoeL.cons Coe.nil ?_ | refine CoeL.cons Coe.unfull ?_))) rfl rfl rfl ?_)
  refine AO.op (O.move rfl rfl) rfl rfl rfl ?_
  first | (refine AO.op (O.extract rfl rfl rfl) rfl rfl rfl ?_) | (refine AO.op (O.extractV rfl rfl rfl) rfl rfl rfl ?_)
  first | (refine AO.op (O.extract rfl rfl rfl) rfl rfl rfl ?_) | (refine AO.op (O.extractV rfl rfl rfl) rfl rfl rfl ?_)
  refine AO.op (O.assign rfl rfl) rfl rfl rfl ?_
  refine AO.op (O.assign rfl rfl) rfl rfl rfl ?_
  refine AO.nil ?_
  refine AQ.thenN ?_
  refine AW.seq ?_
  refine AW.region ?_
  refine AO.op (O.move rfl rfl) rfl rfl rfl ?_
  refine AO.opB (O.buildSlice rfl rfl rfl (by rfl) (by rfl) (by rfl) (by rfl)) rfl rfl rfl ?_
  intro B
  refine AO.g ?_
  first | (refine G.freezeSl 0 12 rfl rfl ⟨Nat.le_refl _, by unfold maxLen; omega⟩ ?_) | (refine G.freezeSl 1 12 rfl rfl ⟨Nat.le_refl _, by unfold maxLen; omega⟩ ?_) | (refine G.freezeSl 2 12 rfl rfl ⟨Nat.le_refl _, by unfold maxLen; omega⟩ ?_) | (refine G.freezeSl 3 12 rfl rfl ⟨Nat.le_refl _, by unfold maxLen; omega⟩ ?_) | (refine G.freezeSl 4 12 rfl rfl ⟨Nat.le_refl _, by unfold maxLen; omega⟩ ?_) | (refine G.freezeSl 5 12 rfl rfl ⟨Nat.le_refl _, by unfold maxLen; omega⟩ ?_)
  refine G.unfull 12 rfl ?_
  refine AO.u ?_
  dsimp only [List.eraseIdx]
  refine AO.opB (O.buildSlice rfl rfl rfl (by rfl) (by rfl) (by rfl) (by rfl)) rfl rfl rfl ?_
  intro B
  refine AO.g ?_
  first | (refine G.freezeSl 0 13 rfl rfl ⟨Nat.le_refl _, by unfold maxLen; omega⟩ ?_) | (refine G.freezeSl 1 13 rfl rfl ⟨Nat.le_refl _, by unfold maxLen; omega⟩ ?_) | (refine G.freezeSl 2 13 rfl rfl ⟨Nat.le_refl _, by unfold maxLen; omega⟩ ?_) | (refine G.freezeSl 3 13 rfl rfl ⟨Nat.le_refl _, by unfold maxLen; omega⟩ ?_) | (refine G.freezeSl 4 13 rfl rfl ⟨Nat.le_refl _, by unfold maxLen; omega⟩ ?_) | (refine G.freezeSl 5 13 rfl rfl ⟨Nat.le_refl _, by unfold maxLen; omega⟩ ?_)
  refine G.unfull 13 rfl ?_
  refine AO.u ?_
  dsimp only [List.eraseIdx]
  first | (refine AO.op (O.call rfl Try.func18 rfl rfl rfl (aw1)) rfl rfl rfl ?_) | (refine AO.op (O.call rfl Try.func18 rfl rfl rfl (aw2)) rfl rfl rfl ?_) | (refine AO.op (O.callC rfl Try.func18 rfl rfl rfl (aw1) (by repeat (first | exact CoeL.nil | refine CoeL.cons Coe.rfl ?_ | refine CoeL.cons Coe.nil ?_ | refine CoeL.cons Coe.unfull ?_))) rfl rfl rfl ?_) | (refine AO.op (O.callC rfl Try.func18 rfl rfl rfl (aw2) (by repeat (first | exact CoeL.nil | refine CoeL.cons Coe.rfl ?_ | refine CoeL.cons Coe.nil ?_ | refine CoeL.cons Coe.unfull ?_))) rfl rfl rfl ?_)
  refine AO.op (O.move rfl rfl) rfl rfl rfl ?_
  first | (refine AO.op (O.extract rfl rfl rfl) rfl rfl rfl ?_) | (refine AO.op (O.extractV rfl rfl rfl) rfl rfl rfl ?_)
  first | (refine AO.op (O.extract rfl rfl rfl) rfl rfl rfl ?_) | (refine AO.op (O.extractV rfl rfl rfl) rfl rfl rfl ?_)
  refine AO.op (O.assign rfl rfl) rfl rfl rfl ?_
  refine AO.op (O.assign rfl rfl) rfl rfl rfl ?_
  refine AO.nil ?_
  refine AQ.thenN ?_
  refine AW.seq ?_
  refine AW.region ?_
  refine AO.op (O.move rfl rfl) rfl rfl rfl ?_
  refine AO.op (O.eql rfl rfl rfl (by first | exact beq_iff_eq.2 (by omega) | exact beq_eq_false_iff_ne.2 (by omega) | assumption | rfl)) rfl rfl rfl ?_
  refine AO.op (O.move rfl rfl) rfl rfl rfl ?_
  first | (refine AO.opG rfl rfl rfl (fun hp => O.move rfl rfl) ?_) | (refine AO.op (O.move rfl rfl) rfl rfl rfl ?_) | (refine AO.no rfl rfl rfl ?_)
  first | (refine AO.opG rfl rfl rfl (fun hp => OpW.force 20 rfl (by first | exact hp | simp_all) (O.eql rfl rfl rfl (by first | exact beq_iff_eq.2 (by omega) | exact beq_eq_false_iff_ne.2 (by omega) | assumption | rfl))) ?_) | (refine AO.op (O.eql rfl rfl rfl (by first | exact beq_iff_eq.2 (by omega) | exact beq_eq_false_iff_ne.2 (by omega) | assumption | rfl)) rfl rfl rfl ?_) | (refine AO.no rfl rfl rfl ?_)
  first | (refine AO.op (O.pickAnd rfl rfl rfl rfl (fun h => by first | exact h | simp_all)) rfl rfl rfl ?_) | (refine AO.op (O.pickF rfl rfl rfl) rfl rfl rfl ?_) | (refine AO.op (O.pickT rfl rfl rfl) rfl rfl rfl ?_)
  refine AO.op (O.move rfl rfl) rfl rfl rfl ?_
  first | (refine AO.opG rfl rfl rfl (fun hp => O.move rfl rfl) ?_) | (refine AO.op (O.move rfl rfl) rfl rfl rfl ?_) | (refine AO.no rfl rfl rfl ?_)
  first | (refine AO.opG rfl rfl rfl (fun hp => OpW.force 24 rfl (by first | exact hp | simp_all) (O.lenR rfl rfl)) ?_) | (refine AO.opG rfl rfl rfl (fun hp => OpW.force 24 rfl (by first | exact hp | simp_all) (O.lenV rfl rfl)) ?_) | (refine AO.opG rfl rfl rfl (fun hp => OpW.force 24 rfl (by first | exact hp | simp_all) (O.lenRow rfl rfl (by repeat (first | exact List.Mem.head _ | refine List.Mem.tail _ ?_)))) ?_) | (refine AO.opG rfl rfl rfl (fun hp => OpW.force 24 rfl (by first | exact hp | simp_all) (O.lenS rfl rfl)) ?_) | (refine AO.op (O.lenR rfl rfl) rfl rfl rfl ?_) | (refine AO.op (O.lenV rfl rfl) rfl rfl rfl ?_) | (refine AO.op (O.lenRow rfl rfl (by repeat (first | exact List.Mem.head _ | refine List.Mem.tail _ ?_))) rfl rfl rfl ?_) | (refine AO.op (O.lenS rfl rfl) rfl rfl rfl ?_) | (refine AO.no rfl rfl rfl ?_)
  first | (refine AO.opG rfl rfl rfl (fun hp => OpW.force 25 rfl (by first | exact hp | simp_all) (O.eql rfl rfl rfl (by first | exact beq_iff_eq.2 (by omega) | exact beq_eq_false_iff_ne.2 (by omega) | assumption | rfl))) ?_) | (refine AO.op (O.eql rfl rfl rfl (by first | exact beq_iff_eq.2 (by omega) | exact beq_eq_false_iff_ne.2 (by omega) | assumption | rfl)) rfl rfl rfl ?_) | (refine AO.no rfl rfl rfl ?_)
  first | (refine AO.op (O.pickAnd rfl rfl rfl rfl (fun h => by first | exact h | simp_all)) rfl rfl rfl ?_) | (refine AO.op (O.pickF rfl rfl rfl) rfl rfl rfl ?_) | (refine AO.op (O.pickT rfl rfl rfl) rfl rfl rfl ?_)
  refine AO.op (O.move rfl rfl) rfl rfl rfl ?_
  first | (refine AO.opG rfl rfl rfl (fun hp => O.move rfl rfl) ?_) | (refine AO.op (O.move rfl rfl) rfl rfl rfl ?_) | (refine AO.no rfl rfl rfl ?_)
  first | (refine AO.opG rfl rfl rfl (fun hp => OpW.force 29 rfl (by first | exact hp | simp_all) (O.idxR rfl rfl rfl ⟨by decide, by decide⟩)) ?_) | (refine AO.opG rfl rfl rfl (fun hp => OpW.force 29 rfl (by first | exact hp | simp_all) (O.idxV rfl rfl rfl ⟨by decide, by decide⟩)) ?_) | (refine AO.op (O.idxR rfl rfl rfl ⟨by decide, by decide⟩) rfl rfl rfl ?_) | (refine AO.op (O.idxV rfl rfl rfl ⟨by decide, by decide⟩) rfl rfl rfl ?_) | (refine AO.no rfl rfl rfl ?_)
  first | (refine AO.opG rfl rfl rfl (fun hp => OpW.force 30 rfl (by first | exact hp | simp_all) (O.fieldAddrR rfl rfl)) ?_) | (refine AO.opG rfl rfl rfl (fun hp => OpW.force 30 rfl (by first | exact hp | simp_all) (O.fieldAddr rfl rfl)) ?_) | (refine AO.op (O.fieldAddrR rfl rfl) rfl rfl rfl ?_) | (refine AO.op (O.fieldAddr rfl rfl) rfl rfl rfl ?_) | (refine AO.no rfl rfl rfl ?_)
  first | (refine AO.opG rfl rfl rfl (fun hp => OpW.force 31 rfl (by first | exact hp | simp_all) (O.loadR rfl rfl (by first | rfl | assumption))) ?_) | (refine AO.opG rfl rfl rfl (fun hp => OpW.force 31 rfl (by first | exact hp | simp_all) (O.load rfl rfl (by repeat (first | exact List.Mem.head _ | refine List.Mem.tail _ ?_)) (by first | rfl | assumption))) ?_) | (refine AO.op (O.loadR rfl rfl (by first | rfl | assumption)) rfl rfl rfl ?_) | (refine AO.op (O.load rfl rfl (by repeat (first | exact List.Mem.head _ | refine List.Mem.tail _ ?_)) (by first | rfl | assumption)) rfl rfl rfl ?_) | (refine AO.no rfl rfl rfl ?_)
  first | (refine AO.opG rfl rfl rfl (fun hp => OpW.force 32 rfl (by first | exact hp | simp_all) (O.idxR rfl rfl rfl ⟨by decide, by decide⟩)) ?_) | (refine AO.opG rfl rfl rfl (fun hp => OpW.force 32 rfl (by first | exact hp | simp_all) (O.idxV rfl rfl rfl ⟨by decide, by decide⟩)) ?_) | (refine AO.op (O.idxR rfl rfl rfl ⟨by decide, by decide⟩) rfl rfl rfl ?_) | (refine AO.op (O.idxV rfl rfl rfl ⟨by decide, by decide⟩) rfl rfl rfl ?_) | (refine AO.no rfl rfl rfl ?_)
  first | (refine AO.opG rfl rfl rfl (fun hp => OpW.force 33 rfl (by first | exact hp | simp_all) (O.loadR rfl rfl (by first | rfl | assumption))) ?_) | (refine AO.opG rfl rfl rfl (fun hp => OpW.force 33 rfl (by first | exact hp | simp_all) (O.load rfl rfl (by repeat (first | exact List.Mem.head _ | refine List.Mem.tail _ ?_)) (by first | rfl | assumption))) ?_) | (refine AO.op (O.loadR rfl rfl (by first | rfl | assumption)) rfl rfl rfl ?_) | (refine AO.op (O.load rfl rfl (by repeat (first | exact List.Mem.head _ | refine List.Mem.tail _ ?_)) (by first | rfl | assumption)) rfl rfl rfl ?_) | (refine AO.no rfl rfl rfl ?_)
  first | (refine AO.opG rfl rfl rfl (fun hp => OpW.force 34 rfl (by first | exact hp | simp_all) (O.eql rfl rfl rfl (by first | exact beq_iff_eq.2 (by omega) | exact beq_eq_false_iff_ne.2 (by omega) | assumption | rfl))) ?_) | (refine AO.op (O.eql rfl rfl rfl (by first | exact beq_iff_eq.2 (by omega) | exact beq_eq_false_iff_ne.2 (by omega) | assumption | rfl)) rfl rfl rfl ?_) | (refine AO.no rfl rfl rfl ?_)
  first | (refine AO.op (O.pickAnd rfl rfl rfl rfl (fun h => by first | exact h | simp_all)) rfl rfl rfl ?_) | (refine AO.op (O.pickF rfl rfl rfl) rfl rfl rfl ?_) | (refine AO.op (O.pickT rfl rfl rfl) rfl rfl rfl ?_)
  refine AO.op (O.move rfl rfl) rfl rfl rfl ?_
  first | (refine AO.opG rfl rfl rfl (fun hp => O.call rfl Try.func21 rfl rfl rfl (newer_fn _ _ _ _ (by omega))) ?_) | (refine AO.opG rfl rfl rfl (fun hp => O.callC rfl Try.func21 rfl rfl rfl (newer_fn _ _ _ _ (by omega)) (by repeat (first | exact CoeL.nil | refine CoeL.cons Coe.rfl ?_ | refine CoeL.cons Coe.nil ?_ | refine CoeL.cons Coe.unfull ?_))) ?_) | (refine AO.op (O.call rfl Try.func21 rfl rfl rfl (newer_fn _ _ _ _ (by omega))) rfl rfl rfl ?_) | (refine AO.op (O.callC rfl Try.func21 rfl rfl rfl (newer_fn _ _ _ _ (by omega)) (by repeat (first | exact CoeL.nil | refine CoeL.cons Coe.rfl ?_ | refine CoeL.cons Coe.nil ?_ | refine CoeL.cons Coe.unfull ?_))) rfl rfl rfl ?_) | (refine AO.no rfl rfl rfl ?_)
  first | (refine AO.op (O.pickAnd rfl rfl rfl rfl (fun h => by first | exact h | simp_all)) rfl rfl rfl ?_) | (refine AO.op (O.pickF rfl rfl rfl) rfl rfl rfl ?_) | (refine AO.op (O.pickT rfl rfl rfl) rfl rfl rfl ?_)
  refine AO.op (O.move rfl rfl) rfl rfl rfl ?_
  first | (refine AO.opG rfl rfl rfl (fun hp => O.call rfl Try.func21 rfl rfl rfl (newer_fn _ _ _ _ (by omega))) ?_) | (refine AO.opG rfl rfl rfl (fun hp => O.callC rfl Try.func21 rfl rfl rfl (newer_fn _ _ _ _ (by omega)) (by repeat (first | exact CoeL.nil | refine CoeL.cons Coe.rfl ?_ | refine CoeL.cons Coe.nil ?_ | refine CoeL.cons Coe.unfull ?_))) ?_) | (refine AO.op (O.call rfl Try.func21 rfl rfl rfl (newer_fn _ _ _ _ (by omega))) rfl rfl rfl ?_) | (refine AO.op (O.callC rfl Try.func21 rfl rfl rfl (newer_fn _ _ _ _ (by omega)) (by repeat (first | exact CoeL.nil | refine CoeL.cons Coe.rfl ?_ | refine CoeL.cons Coe.nil ?_ | refine CoeL.cons Coe.unfull ?_))) rfl rfl rfl ?_) | (refine AO.no rfl rfl rfl ?_)
  first | (refine AO.opG rfl rfl rfl (fun hp => OpW.force 41 rfl (by first | exact hp | simp_all) (O.not rfl rfl (by first | assumption | rfl))) ?_) | (refine AO.op (O.not rfl rfl (by first | assumption | rfl)) rfl rfl rfl ?_) | (refine AO.no rfl rfl rfl ?_)
  first | (refine AO.op (O.pickAnd rfl rfl rfl rfl (fun h => by first | exact h | simp_all)) rfl rfl rfl ?_) | (refine AO.op (O.pickF rfl rfl rfl) rfl rfl rfl ?_) | (refine AO.op (O.pickT rfl rfl rfl) rfl rfl rfl ?_)
  refine AO.op (O.move rfl rfl) rfl rfl rfl ?_
  first | (refine AO.opG rfl rfl rfl (fun hp => O.call rfl Try.func21 rfl rfl rfl (newer_fn _ _ _ _ (by omega))) ?_) | (refine AO.opG rfl rfl rfl (fun hp => O.callC rfl Try.func21 rfl rfl rfl (newer_fn _ _ _ _ (by omega)) (by repeat (first | exact CoeL.nil | refine CoeL.cons Coe.rfl ?_ | refine CoeL.cons Coe.nil ?_ | refine CoeL.cons Coe.unfull ?_))) ?_) | (refine AO.op (O.call rfl Try.func21 rfl rfl rfl (newer_fn _ _ _ _ (by omega))) rfl rfl rfl ?_) | (refine AO.op (O.callC rfl Try.func21 rfl rfl rfl (newer_fn _ _ _ _ (by omega)) (by repeat (first | exact CoeL.nil | refine CoeL.cons Coe.rfl ?_ | refine CoeL.cons Coe.nil ?_ | refine CoeL.cons Coe.unfull ?_))) rfl rfl rfl ?_) | (refine AO.no rfl rfl rfl ?_)
  first | (refine AO.op (O.pickAnd rfl rfl rfl rfl (fun h => by first | exact h | simp_all)) rfl rfl rfl ?_) | (refine AO.op (O.pickF rfl rfl rfl) rfl rfl rfl ?_) | (refine AO.op (O.pickT rfl rfl rfl) rfl rfl rfl ?_)
  refine AO.op (O.assign rfl rfl) rfl rfl rfl ?_
  refine AO.nil ?_
  refine AQ.thenN ?_
  refine AW.ret ?_
  refine AQ.ret1 rfl rfl ⟨_, List.nil_sublist _, .nil⟩ (⟨by rfl, rfl⟩)
end Go.Proofs.Ytlcoanbdaephiaa.Ob
