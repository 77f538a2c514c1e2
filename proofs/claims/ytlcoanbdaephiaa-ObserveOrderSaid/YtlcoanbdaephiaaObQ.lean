/-
  Layer 19: the law ObserveEnds, walked.
-/
import Derived.Test.YtlcoanbdaephiaaObP
namespace Go.Proofs.Ytlcoanbdaephiaa.Ob
open Go.RowKit L A Dk
set_option linter.unusedVariables false
set_option linter.unusedSimpArgs false
attribute [local irreducible] AW AQ AO

theorem SeqOk.nil : SeqOk [] := fun w hw => by cases hw
theorem SeqOk.reg {L : List Watch} (h : SeqOk L) {p now : Int} {t k : List UInt8} : SeqOk (regW L p t k now).1 := by
  unfold regW
  split
  · exact .nil
  · split
    · exact .nil
    · intro w hw
      rcases List.mem_append.1 hw with hw | hw
      · exact h w (List.mem_filter.1 hw).1
      · obtain rfl : w = _ := by simpa using hw
        exact ⟨Int.le_refl 0, show (0 : Int) < 16777216 by omega⟩
theorem SeqOk.set {L : List Watch} (h : SeqOk L) {i : Nat} {s : Int} (hs : 0 ≤ s ∧ s < 16777216) : SeqOk (L.set i { wat L i with seq := s }) := by
  intro w hw
  rcases List.mem_or_eq_of_mem_set hw with hw | rfl
  · exact h w hw
  · exact hs
theorem seqV_in (z : Int) : 0 ≤ seqV z ∧ seqV z < 16777216 := by unfold seqV; (repeat' split) <;> omega
theorem sLoop_seq (l : List Int) {L : List Watch} (h : SeqOk L) (a : Nat) : ∀ i, SeqOk (sLoop l L a i).1
  | 0 => h
  | i + 1 => (sLoop_seq l h a i).set (seqV_in _)
theorem bLoop_seq (l : List Int) : ∀ k {L : List Watch} {a : Nat}, SeqOk L → SeqOk (bLoop l k L a).1
  | 0, L, a, h => h
  | k + 1, L, a, h => by
    refine bLoop_seq l k ?_
    split
    · exact h.reg
    · exact h
theorem regOf_seq (l : List Int) (a : Nat) : SeqOk (regOf l a).1 := sLoop_seq l (bLoop_seq l _ .nil) _ _

theorem small_cancel {ws : List Watch} (h : Small ws) (p : Int) (t : List UInt8) : (cancelW ws p t).length ≤ 1000000 := Nat.le_trans (List.length_filter_le _ ws) (by have := h.1; omega)
theorem small_forget {ws : List Watch} (h : Small ws) (p : Int) : (forgetW ws p).length ≤ 1000000 := Nat.le_trans (List.length_filter_le _ ws) (by have := h.1; omega)
theorem small_not {ws : List Watch} (h : Small ws) (k : List UInt8) : (notW ws k).length ≤ 1000000 := by have := h.1; simp [notW]; omega
theorem small_told {ws : List Watch} (h : Small ws) (k : List UInt8) : (toldW ws k).length ≤ 1000000 := Nat.le_trans (List.length_filter_le _ _) (small_not h k)

set_option maxHeartbeats 4000000 in
theorem lawEnds_fn (l : List Int) (peer : Int) (tok key : List UInt8) (hl : l.length ≤ maxLen) : Sp Try.prog 7 [roI l, .val (.int .i64 peer), roB tok, roB key] [] (Is (.val (.bool true))) := by
  refine Sp.enter Try.func7 rfl _ Try.ntmps7 rfl (fun w0 R0 => ?_)
  refine AW.seq ?_
  refine AW.region ?_
  refine AO.op (O.assign rfl rfl) rfl rfl rfl ?_
  refine AO.nil ?_
  refine AQ.thenN ?_
  refine AW.seq ?_
  refine AW.seq ?_
  refine AW.region ?_
  refine AO.op (O.move rfl rfl) rfl rfl rfl ?_
  first | (refine AO.op (O.lenR rfl rfl) rfl rfl rfl ?_) | (refine AO.op (O.lenV rfl rfl) rfl rfl rfl ?_) | (refine AO.op (O.lenRow rfl rfl (by repeat (first | exact List.Mem.head _ | refine List.Mem.tail _ ?_))) rfl rfl rfl ?_) | (refine AO.op (O.lenS rfl rfl) rfl rfl rfl ?_)
  refine AO.op (O.gtr rfl rfl rfl (by first | exact bTrue (by omega) | exact bFalse (by omega) | assumption | rfl)) rfl rfl rfl ?_
  refine AO.op (O.move rfl rfl) rfl rfl rfl ?_
  first | (refine AO.opG rfl rfl rfl (fun hp => O.move rfl rfl) ?_) | (refine AO.op (O.move rfl rfl) rfl rfl rfl ?_) | (refine AO.no rfl rfl rfl ?_)
  first | (refine AO.opG rfl rfl rfl (fun hp => OpW.force 30 rfl (by first | exact hp | simp_all) (O.call rfl Try.func10 rfl rfl rfl (short_fn _))) ?_) | (refine AO.opG rfl rfl rfl (fun hp => OpW.force 30 rfl (by first | exact hp | simp_all) (O.callC rfl Try.func10 rfl rfl rfl (short_fn _) (by repeat (first | exact CoeL.nil | refine CoeL.cons Coe.rfl ?_ | refine CoeL.cons Coe.nil ?_ | refine CoeL.cons Coe.unfull ?_)))) ?_) | (refine AO.opG rfl rfl rfl (fun hp => OpW.force 30 rfl (by first | exact hp | simp_all) (O.callL rfl Try.func10 rfl rfl rfl (by repeat (first | exact List.Mem.head _ | refine List.Mem.tail _ ?_)) (short_fn _) (by repeat (first | exact LendL.nil | refine LendL.same ?_ | refine LendL.lend ?_)))) ?_) | (refine AO.op (O.call rfl Try.func10 rfl rfl rfl (short_fn _)) rfl rfl rfl ?_) | (refine AO.op (O.callC rfl Try.func10 rfl rfl rfl (short_fn _) (by repeat (first | exact CoeL.nil | refine CoeL.cons Coe.rfl ?_ | refine CoeL.cons Coe.nil ?_ | refine CoeL.cons Coe.unfull ?_))) rfl rfl rfl ?_) | (refine AO.op (O.callL rfl Try.func10 rfl rfl rfl (by repeat (first | exact List.Mem.head _ | refine List.Mem.tail _ ?_)) (short_fn _) (by repeat (first | exact LendL.nil | refine LendL.same ?_ | refine LendL.lend ?_))) rfl rfl rfl ?_) | (refine AO.no rfl rfl rfl ?_)
  first | (refine AO.opG rfl rfl rfl (fun hp => OpW.force 31 rfl (by first | exact hp | simp_all) (O.not rfl rfl (by first | assumption | rfl))) ?_) | (refine AO.op (O.not rfl rfl (by first | assumption | rfl)) rfl rfl rfl ?_) | (refine AO.no rfl rfl rfl ?_)
  first | (refine AO.op (O.pickOr rfl rfl rfl rfl (fun h => by first | exact congrArg (fun b => !b) h | simp_all)) rfl rfl rfl ?_) | (refine AO.op (O.pickT rfl rfl rfl) rfl rfl rfl ?_) | (refine AO.op (O.pickF rfl rfl rfl) rfl rfl rfl ?_)
  refine AO.nil ?_
  refine AQ.thenN ?_
  refine AW.split rfl (fun h0 => ?_) (fun h0 => ?_)
  · skip
    refine AW.seq ?_
    refine AW.region ?_
    first | (refine AO.op (O.call rfl Try.func11 rfl rfl rfl (awake_fn)) rfl rfl rfl ?_) | (refine AO.op (O.callC rfl Try.func11 rfl rfl rfl (awake_fn) (by repeat (first | exact CoeL.nil | refine CoeL.cons Coe.rfl ?_ | refine CoeL.cons Coe.nil ?_ | refine CoeL.cons Coe.unfull ?_))) rfl rfl rfl ?_) | (refine AO.op (O.callL rfl Try.func11 rfl rfl rfl (by repeat (first | exact List.Mem.head _ | refine List.Mem.tail _ ?_)) (awake_fn) (by repeat (first | exact LendL.nil | refine LendL.same ?_ | refine LendL.lend ?_))) rfl rfl rfl ?_)
    refine AO.op (O.assign rfl rfl) rfl rfl rfl ?_
    refine AO.nil ?_
    refine AQ.thenN ?_
    refine AW.ret ?_
    refine AQ.thenR ?_
    refine AQ.ret1 rfl rfl ⟨_, List.nil_sublist _, .nil⟩ (⟨rfl, rfl⟩)
  · skip
    obtain ⟨r, hr⟩ : ∃ r, r = (regOf l 0).1 := ⟨_, rfl⟩
    have hsm : Small r := hr ▸ regOf_small l (Nat.zero_le _)
    have hsq : SeqOk r := hr ▸ regOf_seq l 0
    refine AW.skip ?_
    refine AQ.thenN ?_
    refine AW.seq ?_
    refine AW.region ?_
    refine AO.op (O.move rfl rfl) rfl rfl rfl ?_
    first | (refine AO.opB (O.call rfl Try.func13 rfl rfl rfl (new_fn _)) rfl rfl rfl ?_) | (refine AO.opB (O.callC rfl Try.func13 rfl rfl rfl (new_fn _) (by repeat (first | exact CoeL.nil | refine CoeL.cons Coe.rfl ?_ | refine CoeL.cons Coe.nil ?_ | refine CoeL.cons Coe.unfull ?_))) rfl rfl rfl ?_)
    intro B
    first | (refine AO.callM1 (i := 0) rfl rfl Try.func12 rfl rfl rfl rfl rfl rfl (registry_fn _ l 0 hl (Nat.zero_le _)) (by first | (dsimp only [List.set, List.append, List.cons_append, List.nil_append, splice, AV.cells, List.map, List.map_cons, List.map_nil, List.take, List.drop, Nat.zero_add, Nat.add_zero, Nat.reduceAdd, Nat.reduceMul, Nat.zero_mul, Value.cells, List.toList_toArray, zerosA, List.replicate, List.flatten, List.append_nil]; rfl) | (dsimp only [List.set, List.append, List.cons_append, List.nil_append, splice, AV.cells, List.map, List.map_cons, List.map_nil, List.take, List.drop, Nat.zero_add, Nat.add_zero, Nat.reduceAdd, Nat.reduceMul, Nat.zero_mul, Value.cells, List.toList_toArray, zerosA, List.replicate, List.flatten, List.append_nil]; done) | rfl) ?_) | (refine AO.callM1 (i := 1) rfl rfl Try.func12 rfl rfl rfl rfl rfl rfl (registry_fn _ l 0 hl (Nat.zero_le _)) (by first | (dsimp only [List.set, List.append, List.cons_append, List.nil_append, splice, AV.cells, List.map, List.map_cons, List.map_nil, List.take, List.drop, Nat.zero_add, Nat.add_zero, Nat.reduceAdd, Nat.reduceMul, Nat.zero_mul, Value.cells, List.toList_toArray, zerosA, List.replicate, List.flatten, List.append_nil]; rfl) | (dsimp only [List.set, List.append, List.cons_append, List.nil_append, splice, AV.cells, List.map, List.map_cons, List.map_nil, List.take, List.drop, Nat.zero_add, Nat.add_zero, Nat.reduceAdd, Nat.reduceMul, Nat.zero_mul, Value.cells, List.toList_toArray, zerosA, List.replicate, List.flatten, List.append_nil]; done) | rfl) ?_) | (refine AO.callM1 (i := 2) rfl rfl Try.func12 rfl rfl rfl rfl rfl rfl (registry_fn _ l 0 hl (Nat.zero_le _)) (by first | (dsimp only [List.set, List.append, List.cons_append, List.nil_append, splice, AV.cells, List.map, List.map_cons, List.map_nil, List.take, List.drop, Nat.zero_add, Nat.add_zero, Nat.reduceAdd, Nat.reduceMul, Nat.zero_mul, Value.cells, List.toList_toArray, zerosA, List.replicate, List.flatten, List.append_nil]; rfl) | (dsimp only [List.set, List.append, List.cons_append, List.nil_append, splice, AV.cells, List.map, List.map_cons, List.map_nil, List.take, List.drop, Nat.zero_add, Nat.add_zero, Nat.reduceAdd, Nat.reduceMul, Nat.zero_mul, Value.cells, List.toList_toArray, zerosA, List.replicate, List.flatten, List.append_nil]; done) | rfl) ?_) | (refine AO.callM1 (i := 3) rfl rfl Try.func12 rfl rfl rfl rfl rfl rfl (registry_fn _ l 0 hl (Nat.zero_le _)) (by first | (dsimp only [List.set, List.append, List.cons_append, List.nil_append, splice, AV.cells, List.map, List.map_cons, List.map_nil, List.take, List.drop, Nat.zero_add, Nat.add_zero, Nat.reduceAdd, Nat.reduceMul, Nat.zero_mul, Value.cells, List.toList_toArray, zerosA, List.replicate, List.flatten, List.append_nil]; rfl) | (dsimp only [List.set, List.append, List.cons_append, List.nil_append, splice, AV.cells, List.map, List.map_cons, List.map_nil, List.take, List.drop, Nat.zero_add, Nat.add_zero, Nat.reduceAdd, Nat.reduceMul, Nat.zero_mul, Value.cells, List.toList_toArray, zerosA, List.replicate, List.flatten, List.append_nil]; done) | rfl) ?_) | (refine AO.callM1 (i := 4) rfl rfl Try.func12 rfl rfl rfl rfl rfl rfl (registry_fn _ l 0 hl (Nat.zero_le _)) (by first | (dsimp only [List.set, List.append, List.cons_append, List.nil_append, splice, AV.cells, List.map, List.map_cons, List.map_nil, List.take, List.drop, Nat.zero_add, Nat.add_zero, Nat.reduceAdd, Nat.reduceMul, Nat.zero_mul, Value.cells, List.toList_toArray, zerosA, List.replicate, List.flatten, List.append_nil]; rfl) | (dsimp only [List.set, List.append, List.cons_append, List.nil_append, splice, AV.cells, List.map, List.map_cons, List.map_nil, List.take, List.drop, Nat.zero_add, Nat.add_zero, Nat.reduceAdd, Nat.reduceMul, Nat.zero_mul, Value.cells, List.toList_toArray, zerosA, List.replicate, List.flatten, List.append_nil]; done) | rfl) ?_) | (refine AO.callM1 (i := 5) rfl rfl Try.func12 rfl rfl rfl rfl rfl rfl (registry_fn _ l 0 hl (Nat.zero_le _)) (by first | (dsimp only [List.set, List.append, List.cons_append, List.nil_append, splice, AV.cells, List.map, List.map_cons, List.map_nil, List.take, List.drop, Nat.zero_add, Nat.add_zero, Nat.reduceAdd, Nat.reduceMul, Nat.zero_mul, Value.cells, List.toList_toArray, zerosA, List.replicate, List.flatten, List.append_nil]; rfl) | (dsimp only [List.set, List.append, List.cons_append, List.nil_append, splice, AV.cells, List.map, List.map_cons, List.map_nil, List.take, List.drop, Nat.zero_add, Nat.add_zero, Nat.reduceAdd, Nat.reduceMul, Nat.zero_mul, Value.cells, List.toList_toArray, zerosA, List.replicate, List.flatten, List.append_nil]; done) | rfl) ?_)
    refine AO.op (O.assign rfl rfl) rfl rfl rfl ?_
    refine AO.nil ?_
    refine AQ.thenN ?_
    refine AW.seq ?_
    refine AW.seq ?_
    refine AW.region ?_
    refine AO.op (O.move rfl rfl) rfl rfl rfl ?_
    refine AO.op (O.move rfl rfl) rfl rfl rfl ?_
    first | (refine AO.op (O.call rfl Try.func17 rfl rfl rfl (mod_fn _ _ (by omega) (by omega))) rfl rfl rfl ?_) | (refine AO.op (O.callC rfl Try.func17 rfl rfl rfl (mod_fn _ _ (by omega) (by omega)) (by repeat (first | exact CoeL.nil | refine CoeL.cons Coe.rfl ?_ | refine CoeL.cons Coe.nil ?_ | refine CoeL.cons Coe.unfull ?_))) rfl rfl rfl ?_) | (refine AO.op (O.callL rfl Try.func17 rfl rfl rfl (by repeat (first | exact List.Mem.head _ | refine List.Mem.tail _ ?_)) (mod_fn _ _ (by omega) (by omega)) (by repeat (first | exact LendL.nil | refine LendL.same ?_ | refine LendL.lend ?_))) rfl rfl rfl ?_)
    refine AO.opB (O.buildSlice rfl rfl rfl (by rfl) (by rfl) (by rfl) (by rfl)) rfl rfl rfl ?_
    intro B
    refine AO.g ?_
    first | (refine G.freezeSl 0 41 rfl rfl ⟨Nat.le_refl _, by unfold maxLen; omega⟩ ?_) | (refine G.freezeSl 1 41 rfl rfl ⟨Nat.le_refl _, by unfold maxLen; omega⟩ ?_) | (refine G.freezeSl 2 41 rfl rfl ⟨Nat.le_refl _, by unfold maxLen; omega⟩ ?_) | (refine G.freezeSl 3 41 rfl rfl ⟨Nat.le_refl _, by unfold maxLen; omega⟩ ?_) | (refine G.freezeSl 4 41 rfl rfl ⟨Nat.le_refl _, by unfold maxLen; omega⟩ ?_) | (refine G.freezeSl 5 41 rfl rfl ⟨Nat.le_refl _, by unfold maxLen; omega⟩ ?_)
    refine G.unfull 41 rfl ?_
    refine AO.u ?_
    dsimp only [List.eraseIdx]
    first | (refine AO.op (O.lenR rfl rfl) rfl rfl rfl ?_) | (refine AO.op (O.lenV rfl rfl) rfl rfl rfl ?_) | (refine AO.op (O.lenRow rfl rfl (by repeat (first | exact List.Mem.head _ | refine List.Mem.tail _ ?_))) rfl rfl rfl ?_) | (refine AO.op (O.lenS rfl rfl) rfl rfl rfl ?_)
    refine AO.op (O.move rfl rfl) rfl rfl rfl ?_
    refine AO.nil ?_
    refine AQ.thenN ?_
    refine AW.block ?_
    rw [← hr]
    refine AW.g ?_
    refine G.re 41 (.ro false 2 [.val (.int .i64 peer), .val (.int .i64 (peer % 5))]) rfl ?_
    refine AW.u ?_
    refine AW.loop (fun n E H => ∃ k : Nat, k ≤ 2 ∧ n = 2 - k ∧ E = [(1, .val (.int .i64 peer)), (2, roB tok), (3, roB key), (9, roW r), (41, .ro false 2 [.val (.int .i64 peer), .val (.int .i64 (peer % 5))]), (42, .val (.int .i64 2)), (43, .val (.int .i64 (k : Int)))] ∧ H = []) (2) (⟨0, by omega, rfl, rfl, rfl⟩) (by repeat (first | exact envNil | refine envCons rfl ?_)) ⟨_, by repeat (first | exact List.Sublist.slnil | refine List.Sublist.cons_cons _ ?_ | refine List.Sublist.cons _ ?_), List.Perm.refl _⟩ ?_
    rintro n E H ⟨k, hk, rfl, rfl, rfl⟩
    refine AW.seq ?_
    refine AW.region ?_
    refine AO.op (O.lss rfl rfl rfl (by first | exact bTrue (by omega) | exact bFalse (by omega) | assumption | rfl)) rfl rfl rfl ?_
    refine AO.nil ?_
    refine AQ.thenN ?_
    refine AW.seq ?_
    refine AW.split rfl (fun hlt => ?_) (fun hlt => ?_)
    · skip
      have hlt : k < 2 := by have := of_decide_eq_true hlt; omega
      obtain ⟨p, hp⟩ : ∃ p : Int, ([.val (.int .i64 peer), .val (.int .i64 (peer % 5))] : List AV)[Int.toNat (k : Int) * 1]? = some (.val (.int .i64 p)) := by
        rcases (show k = 0 ∨ k = 1 by omega) with rfl | rfl <;> exact ⟨_, rfl⟩
      refine AW.skip ?_
      refine AQ.thenN ?_
      refine AW.seq ?_
      refine AW.block ?_
      refine AW.seq ?_
      refine AW.region ?_
      first | (refine AO.op (O.idxR rfl rfl rfl ⟨by omega, by omega⟩) rfl rfl rfl ?_) | (refine AO.op (O.idxV rfl rfl rfl ⟨by omega, by omega⟩) rfl rfl rfl ?_)
      first | (refine AO.op (O.loadR rfl rfl (by first | rfl | assumption)) rfl rfl rfl ?_) | (refine AO.op (O.load rfl rfl (by repeat (first | exact List.Mem.head _ | refine List.Mem.tail _ ?_)) (by first | rfl | assumption)) rfl rfl rfl ?_)
      refine AO.op (O.assign rfl rfl) rfl rfl rfl ?_
      refine AO.nil ?_
      refine AQ.thenN ?_
      refine AW.seq ?_
      refine AW.region ?_
      refine AO.op (O.move rfl rfl) rfl rfl rfl ?_
      refine AO.op (O.move rfl rfl) rfl rfl rfl ?_
      refine AO.op (O.quo rfl rfl rfl (by omega) (by first | exact wI64 (by omega) | rfl)) rfl rfl rfl ?_
      first | (refine AO.op (O.call rfl Try.func17 rfl rfl rfl (mod_fn _ _ (by omega) (by omega))) rfl rfl rfl ?_) | (refine AO.op (O.callC rfl Try.func17 rfl rfl rfl (mod_fn _ _ (by omega) (by omega)) (by repeat (first | exact CoeL.nil | refine CoeL.cons Coe.rfl ?_ | refine CoeL.cons Coe.nil ?_ | refine CoeL.cons Coe.unfull ?_))) rfl rfl rfl ?_) | (refine AO.op (O.callL rfl Try.func17 rfl rfl rfl (by repeat (first | exact List.Mem.head _ | refine List.Mem.tail _ ?_)) (mod_fn _ _ (by omega) (by omega)) (by repeat (first | exact LendL.nil | refine LendL.same ?_ | refine LendL.lend ?_))) rfl rfl rfl ?_)
      refine AO.op (O.conv rfl rfl wU8any) rfl rfl rfl ?_
      refine AO.opB (O.buildSlice rfl rfl rfl (by rfl) (by rfl) (by rfl) (by rfl)) rfl rfl rfl ?_
      intro B
      refine AO.g ?_
      first | (refine G.freezeSl 0 52 rfl rfl ⟨Nat.le_refl _, by unfold maxLen; omega⟩ ?_) | (refine G.freezeSl 1 52 rfl rfl ⟨Nat.le_refl _, by unfold maxLen; omega⟩ ?_) | (refine G.freezeSl 2 52 rfl rfl ⟨Nat.le_refl _, by unfold maxLen; omega⟩ ?_) | (refine G.freezeSl 3 52 rfl rfl ⟨Nat.le_refl _, by unfold maxLen; omega⟩ ?_) | (refine G.freezeSl 4 52 rfl rfl ⟨Nat.le_refl _, by unfold maxLen; omega⟩ ?_) | (refine G.freezeSl 5 52 rfl rfl ⟨Nat.le_refl _, by unfold maxLen; omega⟩ ?_)
      refine G.unfull 52 rfl ?_
      refine AO.u ?_
      dsimp only [List.eraseIdx]
      refine AO.opB (O.buildSlice rfl rfl rfl (by rfl) (by rfl) (by rfl) (by rfl)) rfl rfl rfl ?_
      intro B
      refine AO.g ?_
      first | (refine G.freezeSl 0 53 rfl rfl ⟨Nat.le_refl _, by unfold maxLen; omega⟩ ?_) | (refine G.freezeSl 1 53 rfl rfl ⟨Nat.le_refl _, by unfold maxLen; omega⟩ ?_) | (refine G.freezeSl 2 53 rfl rfl ⟨Nat.le_refl _, by unfold maxLen; omega⟩ ?_) | (refine G.freezeSl 3 53 rfl rfl ⟨Nat.le_refl _, by unfold maxLen; omega⟩ ?_) | (refine G.freezeSl 4 53 rfl rfl ⟨Nat.le_refl _, by unfold maxLen; omega⟩ ?_) | (refine G.freezeSl 5 53 rfl rfl ⟨Nat.le_refl _, by unfold maxLen; omega⟩ ?_)
      refine G.unfull 53 rfl ?_
      refine AO.u ?_
      dsimp only [List.eraseIdx]
      first | (refine AO.op (O.lenR rfl rfl) rfl rfl rfl ?_) | (refine AO.op (O.lenV rfl rfl) rfl rfl rfl ?_) | (refine AO.op (O.lenRow rfl rfl (by repeat (first | exact List.Mem.head _ | refine List.Mem.tail _ ?_))) rfl rfl rfl ?_) | (refine AO.op (O.lenS rfl rfl) rfl rfl rfl ?_)
      refine AO.op (O.move rfl rfl) rfl rfl rfl ?_
      refine AO.nil ?_
      refine AQ.thenN ?_
      refine AW.block ?_
      refine AW.loop (fun n E H => ∃ j : Nat, ∃ q : List UInt8, j ≤ 2 ∧ n = 2 - j ∧ E = [(1, .val (.int .i64 peer)), (2, roB tok), (3, roB key), (9, roW r), (41, .ro false 2 [.val (.int .i64 peer), .val (.int .i64 (peer % 5))]), (42, .val (.int .i64 2)), (43, .val (.int .i64 (k : Int))), (11, .val (.int .i64 p)), (53, .ro false 2 [roB tok, roB q]), (54, .val (.int .i64 2)), (55, .val (.int .i64 (j : Int)))] ∧ H = []) (2) (⟨0, [u8 (IntKind.i64.wrap (peer.tdiv 5) % 5)], by omega, rfl, rfl, rfl⟩) (by repeat (first | exact envNil | refine envCons rfl ?_)) ⟨_, by repeat (first | exact List.Sublist.slnil | refine List.Sublist.cons_cons _ ?_ | refine List.Sublist.cons _ ?_), List.Perm.refl _⟩ ?_
      rintro n E H ⟨j, q, hj, rfl, rfl, rfl⟩
      refine AW.seq ?_
      refine AW.region ?_
      refine AO.op (O.lss rfl rfl rfl (by first | exact bTrue (by omega) | exact bFalse (by omega) | assumption | rfl)) rfl rfl rfl ?_
      refine AO.nil ?_
      refine AQ.thenN ?_
      refine AW.seq ?_
      refine AW.split rfl (fun hlt2 => ?_) (fun hlt2 => ?_)
      · skip
        have hlt2 : j < 2 := by have := of_decide_eq_true hlt2; omega
        obtain ⟨t, ht⟩ : ∃ t : List UInt8, ([roB tok, roB q] : List AV)[Int.toNat (j : Int) * 1]? = some (roB t) := by
          rcases (show j = 0 ∨ j = 1 by omega) with rfl | rfl <;> exact ⟨_, rfl⟩
        refine AW.skip ?_
        refine AQ.thenN ?_
        refine AW.seq ?_
        refine AW.block ?_
        refine AW.seq ?_
        refine AW.region ?_
        first | (refine AO.op (O.idxR rfl rfl rfl ⟨by omega, by omega⟩) rfl rfl rfl ?_) | (refine AO.op (O.idxV rfl rfl rfl ⟨by omega, by omega⟩) rfl rfl rfl ?_)
        first | (refine AO.op (O.loadR rfl rfl (by first | rfl | assumption)) rfl rfl rfl ?_) | (refine AO.op (O.load rfl rfl (by repeat (first | exact List.Mem.head _ | refine List.Mem.tail _ ?_)) (by first | rfl | assumption)) rfl rfl rfl ?_)
        refine AO.op (O.assign rfl rfl) rfl rfl rfl ?_
        refine AO.nil ?_
        refine AQ.thenN ?_
        refine AW.seq ?_
        refine AW.region ?_
        refine AO.op (O.move rfl rfl) rfl rfl rfl ?_
        refine AO.op (O.move rfl rfl) rfl rfl rfl ?_
        refine AO.op (O.move rfl rfl) rfl rfl rfl ?_
        first | (refine AO.op (O.call rfl Try.func26 rfl rfl rfl (cancel_fn _ hsm.short _ _)) rfl rfl rfl ?_) | (refine AO.op (O.callC rfl Try.func26 rfl rfl rfl (cancel_fn _ hsm.short _ _) (by repeat (first | exact CoeL.nil | refine CoeL.cons Coe.rfl ?_ | refine CoeL.cons Coe.nil ?_ | refine CoeL.cons Coe.unfull ?_))) rfl rfl rfl ?_) | (refine AO.op (O.callL rfl Try.func26 rfl rfl rfl (by repeat (first | exact List.Mem.head _ | refine List.Mem.tail _ ?_)) (cancel_fn _ hsm.short _ _) (by repeat (first | exact LendL.nil | refine LendL.same ?_ | refine LendL.lend ?_))) rfl rfl rfl ?_)
        refine AO.op (O.move rfl rfl) rfl rfl rfl ?_
        first | (refine AO.op (O.extract rfl rfl rfl) rfl rfl rfl ?_) | (refine AO.op (O.extractV rfl rfl rfl) rfl rfl rfl ?_)
        first | (refine AO.op (O.extract rfl rfl rfl) rfl rfl rfl ?_) | (refine AO.op (O.extractV rfl rfl rfl) rfl rfl rfl ?_)
        refine AO.op (O.assign rfl rfl) rfl rfl rfl ?_
        refine AO.op (O.assign rfl rfl) rfl rfl rfl ?_
        refine AO.nil ?_
        refine AQ.thenN ?_
        refine AW.seq ?_
        refine AW.region ?_
        refine AO.op (O.move rfl rfl) rfl rfl rfl ?_
        refine AO.op (O.move rfl rfl) rfl rfl rfl ?_
        refine AO.op (O.move rfl rfl) rfl rfl rfl ?_
        first | (refine AO.op (O.call rfl Try.func27 rfl rfl rfl (rcancel_fn _ hsm.short _ _)) rfl rfl rfl ?_) | (refine AO.op (O.callC rfl Try.func27 rfl rfl rfl (rcancel_fn _ hsm.short _ _) (by repeat (first | exact CoeL.nil | refine CoeL.cons Coe.rfl ?_ | refine CoeL.cons Coe.nil ?_ | refine CoeL.cons Coe.unfull ?_))) rfl rfl rfl ?_) | (refine AO.op (O.callL rfl Try.func27 rfl rfl rfl (by repeat (first | exact List.Mem.head _ | refine List.Mem.tail _ ?_)) (rcancel_fn _ hsm.short _ _) (by repeat (first | exact LendL.nil | refine LendL.same ?_ | refine LendL.lend ?_))) rfl rfl rfl ?_)
        refine AO.op (O.move rfl rfl) rfl rfl rfl ?_
        first | (refine AO.op (O.extract rfl rfl rfl) rfl rfl rfl ?_) | (refine AO.op (O.extractV rfl rfl rfl) rfl rfl rfl ?_)
        first | (refine AO.op (O.extract rfl rfl rfl) rfl rfl rfl ?_) | (refine AO.op (O.extractV rfl rfl rfl) rfl rfl rfl ?_)
        refine AO.op (O.assign rfl rfl) rfl rfl rfl ?_
        refine AO.op (O.assign rfl rfl) rfl rfl rfl ?_
        refine AO.nil ?_
        refine AQ.thenN ?_
        refine AW.seq ?_
        refine AW.seq ?_
        refine AW.region ?_
        refine AO.op (O.move rfl rfl) rfl rfl rfl ?_
        refine AO.op (O.move rfl rfl) rfl rfl rfl ?_
        first | (refine AO.op (O.call rfl Try.func20 rfl rfl rfl (same_fn _ (by first | exact small_cancel hsm _ _ | exact small_forget hsm _ | exact small_not hsm _ | exact small_told hsm _))) rfl rfl rfl ?_) | (refine AO.op (O.callC rfl Try.func20 rfl rfl rfl (same_fn _ (by first | exact small_cancel hsm _ _ | exact small_forget hsm _ | exact small_not hsm _ | exact small_told hsm _)) (by repeat (first | exact CoeL.nil | refine CoeL.cons Coe.rfl ?_ | refine CoeL.cons Coe.nil ?_ | refine CoeL.cons Coe.unfull ?_))) rfl rfl rfl ?_) | (refine AO.op (O.callL rfl Try.func20 rfl rfl rfl (by repeat (first | exact List.Mem.head _ | refine List.Mem.tail _ ?_)) (same_fn _ (by first | exact small_cancel hsm _ _ | exact small_forget hsm _ | exact small_not hsm _ | exact small_told hsm _)) (by repeat (first | exact LendL.nil | refine LendL.same ?_ | refine LendL.lend ?_))) rfl rfl rfl ?_)
        refine AO.op (O.not rfl rfl (by first | assumption | rfl)) rfl rfl rfl ?_
        refine AO.op (O.move rfl rfl) rfl rfl rfl ?_
        first | (refine AO.opG rfl rfl rfl (fun hp => O.move rfl rfl) ?_) | (refine AO.op (O.move rfl rfl) rfl rfl rfl ?_) | (refine AO.no rfl rfl rfl ?_)
        first | (refine AO.opG rfl rfl rfl (fun hp => O.move rfl rfl) ?_) | (refine AO.op (O.move rfl rfl) rfl rfl rfl ?_) | (refine AO.no rfl rfl rfl ?_)
        first | (refine AO.opG rfl rfl rfl (fun hp => OpW.force 78 rfl (by first | exact hp | simp_all) (OpW.force 79 rfl (by first | exact hp | simp_all) (O.neqB rfl rfl rfl (by first | assumption | rfl)))) ?_) | (refine AO.op (O.neqB rfl rfl rfl (by first | assumption | rfl)) rfl rfl rfl ?_) | (refine AO.no rfl rfl rfl ?_)
        first | (refine AO.op (O.pickOr rfl rfl rfl rfl (fun h => by first | exact congrArg (fun b => !b) h | simp_all)) rfl rfl rfl ?_) | (refine AO.op (O.pickT rfl rfl rfl) rfl rfl rfl ?_) | (refine AO.op (O.pickF rfl rfl rfl) rfl rfl rfl ?_)
        refine AO.op (O.move rfl rfl) rfl rfl rfl ?_
        first | (refine AO.opG rfl rfl rfl (fun hp => O.move rfl rfl) ?_) | (refine AO.op (O.move rfl rfl) rfl rfl rfl ?_) | (refine AO.no rfl rfl rfl ?_)
        first | (refine AO.opG rfl rfl rfl (fun hp => O.move rfl rfl) ?_) | (refine AO.op (O.move rfl rfl) rfl rfl rfl ?_) | (refine AO.no rfl rfl rfl ?_)
        first | (refine AO.opG rfl rfl rfl (fun hp => OpW.force 83 rfl (by first | exact hp | simp_all) (OpW.force 84 rfl (by first | exact hp | simp_all) (O.call rfl Try.func28 rfl rfl rfl (forget_fn _ hsm.short _)))) ?_) | (refine AO.opG rfl rfl rfl (fun hp => OpW.force 83 rfl (by first | exact hp | simp_all) (OpW.force 84 rfl (by first | exact hp | simp_all) (O.callC rfl Try.func28 rfl rfl rfl (forget_fn _ hsm.short _) (by repeat (first | exact CoeL.nil | refine CoeL.cons Coe.rfl ?_ | refine CoeL.cons Coe.nil ?_ | refine CoeL.cons Coe.unfull ?_))))) ?_) | (refine AO.opG rfl rfl rfl (fun hp => OpW.force 83 rfl (by first | exact hp | simp_all) (OpW.force 84 rfl (by first | exact hp | simp_all) (O.callL rfl Try.func28 rfl rfl rfl (by repeat (first | exact List.Mem.head _ | refine List.Mem.tail _ ?_)) (forget_fn _ hsm.short _) (by repeat (first | exact LendL.nil | refine LendL.same ?_ | refine LendL.lend ?_))))) ?_) | (refine AO.op (O.call rfl Try.func28 rfl rfl rfl (forget_fn _ hsm.short _)) rfl rfl rfl ?_) | (refine AO.op (O.callC rfl Try.func28 rfl rfl rfl (forget_fn _ hsm.short _) (by repeat (first | exact CoeL.nil | refine CoeL.cons Coe.rfl ?_ | refine CoeL.cons Coe.nil ?_ | refine CoeL.cons Coe.unfull ?_))) rfl rfl rfl ?_) | (refine AO.op (O.callL rfl Try.func28 rfl rfl rfl (by repeat (first | exact List.Mem.head _ | refine List.Mem.tail _ ?_)) (forget_fn _ hsm.short _) (by repeat (first | exact LendL.nil | refine LendL.same ?_ | refine LendL.lend ?_))) rfl rfl rfl ?_) | (refine AO.no rfl rfl rfl ?_)
        first | (refine AO.opG rfl rfl rfl (fun hp => O.move rfl rfl) ?_) | (refine AO.op (O.move rfl rfl) rfl rfl rfl ?_) | (refine AO.no rfl rfl rfl ?_)
        first | (refine AO.opG rfl rfl rfl (fun hp => O.move rfl rfl) ?_) | (refine AO.op (O.move rfl rfl) rfl rfl rfl ?_) | (refine AO.no rfl rfl rfl ?_)
        first | (refine AO.opG rfl rfl rfl (fun hp => OpW.force 86 rfl (by first | exact hp | simp_all) (OpW.force 87 rfl (by first | exact hp | simp_all) (O.call rfl Try.func29 rfl rfl rfl (rforget_fn _ hsm.short _)))) ?_) | (refine AO.opG rfl rfl rfl (fun hp => OpW.force 86 rfl (by first | exact hp | simp_all) (OpW.force 87 rfl (by first | exact hp | simp_all) (O.callC rfl Try.func29 rfl rfl rfl (rforget_fn _ hsm.short _) (by repeat (first | exact CoeL.nil | refine CoeL.cons Coe.rfl ?_ | refine CoeL.cons Coe.nil ?_ | refine CoeL.cons Coe.unfull ?_))))) ?_) | (refine AO.opG rfl rfl rfl (fun hp => OpW.force 86 rfl (by first | exact hp | simp_all) (OpW.force 87 rfl (by first | exact hp | simp_all) (O.callL rfl Try.func29 rfl rfl rfl (by repeat (first | exact List.Mem.head _ | refine List.Mem.tail _ ?_)) (rforget_fn _ hsm.short _) (by repeat (first | exact LendL.nil | refine LendL.same ?_ | refine LendL.lend ?_))))) ?_) | (refine AO.op (O.call rfl Try.func29 rfl rfl rfl (rforget_fn _ hsm.short _)) rfl rfl rfl ?_) | (refine AO.op (O.callC rfl Try.func29 rfl rfl rfl (rforget_fn _ hsm.short _) (by repeat (first | exact CoeL.nil | refine CoeL.cons Coe.rfl ?_ | refine CoeL.cons Coe.nil ?_ | refine CoeL.cons Coe.unfull ?_))) rfl rfl rfl ?_) | (refine AO.op (O.callL rfl Try.func29 rfl rfl rfl (by repeat (first | exact List.Mem.head _ | refine List.Mem.tail _ ?_)) (rforget_fn _ hsm.short _) (by repeat (first | exact LendL.nil | refine LendL.same ?_ | refine LendL.lend ?_))) rfl rfl rfl ?_) | (refine AO.no rfl rfl rfl ?_)
        first | (refine AO.opG rfl rfl rfl (fun hp => OpW.force 85 rfl (by first | exact hp | simp_all) (OpW.force 88 rfl (by first | exact hp | simp_all) (O.call rfl Try.func20 rfl rfl rfl (same_fn _ (by first | exact small_cancel hsm _ _ | exact small_forget hsm _ | exact small_not hsm _ | exact small_told hsm _))))) ?_) | (refine AO.opG rfl rfl rfl (fun hp => OpW.force 85 rfl (by first | exact hp | simp_all) (OpW.force 88 rfl (by first | exact hp | simp_all) (O.callC rfl Try.func20 rfl rfl rfl (same_fn _ (by first | exact small_cancel hsm _ _ | exact small_forget hsm _ | exact small_not hsm _ | exact small_told hsm _)) (by repeat (first | exact CoeL.nil | refine CoeL.cons Coe.rfl ?_ | refine CoeL.cons Coe.nil ?_ | refine CoeL.cons Coe.unfull ?_))))) ?_) | (refine AO.opG rfl rfl rfl (fun hp => OpW.force 85 rfl (by first | exact hp | simp_all) (OpW.force 88 rfl (by first | exact hp | simp_all) (O.callL rfl Try.func20 rfl rfl rfl (by repeat (first | exact List.Mem.head _ | refine List.Mem.tail _ ?_)) (same_fn _ (by first | exact small_cancel hsm _ _ | exact small_forget hsm _ | exact small_not hsm _ | exact small_told hsm _)) (by repeat (first | exact LendL.nil | refine LendL.same ?_ | refine LendL.lend ?_))))) ?_) | (refine AO.op (O.call rfl Try.func20 rfl rfl rfl (same_fn _ (by first | exact small_cancel hsm _ _ | exact small_forget hsm _ | exact small_not hsm _ | exact small_told hsm _))) rfl rfl rfl ?_) | (refine AO.op (O.callC rfl Try.func20 rfl rfl rfl (same_fn _ (by first | exact small_cancel hsm _ _ | exact small_forget hsm _ | exact small_not hsm _ | exact small_told hsm _)) (by repeat (first | exact CoeL.nil | refine CoeL.cons Coe.rfl ?_ | refine CoeL.cons Coe.nil ?_ | refine CoeL.cons Coe.unfull ?_))) rfl rfl rfl ?_) | (refine AO.op (O.callL rfl Try.func20 rfl rfl rfl (by repeat (first | exact List.Mem.head _ | refine List.Mem.tail _ ?_)) (same_fn _ (by first | exact small_cancel hsm _ _ | exact small_forget hsm _ | exact small_not hsm _ | exact small_told hsm _)) (by repeat (first | exact LendL.nil | refine LendL.same ?_ | refine LendL.lend ?_))) rfl rfl rfl ?_) | (refine AO.no rfl rfl rfl ?_)
        first | (refine AO.opG rfl rfl rfl (fun hp => OpW.force 89 rfl (by first | exact hp | simp_all) (O.not rfl rfl (by first | assumption | rfl))) ?_) | (refine AO.op (O.not rfl rfl (by first | assumption | rfl)) rfl rfl rfl ?_) | (refine AO.no rfl rfl rfl ?_)
        first | (refine AO.op (O.pickOr rfl rfl rfl rfl (fun h => by first | exact congrArg (fun b => !b) h | simp_all)) rfl rfl rfl ?_) | (refine AO.op (O.pickT rfl rfl rfl) rfl rfl rfl ?_) | (refine AO.op (O.pickF rfl rfl rfl) rfl rfl rfl ?_)
        refine AO.nil ?_
        refine AQ.thenN ?_
        refine AW.split rfl (fun hne => ?_) (fun hne => ?_)
        · skip
          simp at hne
        · skip
          refine AW.skip ?_
          refine AQ.thenN ?_
          refine AW.seq ?_
          refine AW.region ?_
          refine AO.op (O.move rfl rfl) rfl rfl rfl ?_
          refine AO.op (O.move rfl rfl) rfl rfl rfl ?_
          first | (refine AO.op (O.call rfl Try.func30 rfl rfl rfl (notify_fn _ hsm.short hsq _)) rfl rfl rfl ?_) | (refine AO.op (O.callC rfl Try.func30 rfl rfl rfl (notify_fn _ hsm.short hsq _) (by repeat (first | exact CoeL.nil | refine CoeL.cons Coe.rfl ?_ | refine CoeL.cons Coe.nil ?_ | refine CoeL.cons Coe.unfull ?_))) rfl rfl rfl ?_) | (refine AO.op (O.callL rfl Try.func30 rfl rfl rfl (by repeat (first | exact List.Mem.head _ | refine List.Mem.tail _ ?_)) (notify_fn _ hsm.short hsq _) (by repeat (first | exact LendL.nil | refine LendL.same ?_ | refine LendL.lend ?_))) rfl rfl rfl ?_)
          refine AO.op (O.move rfl rfl) rfl rfl rfl ?_
          first | (refine AO.op (O.extract rfl rfl rfl) rfl rfl rfl ?_) | (refine AO.op (O.extractV rfl rfl rfl) rfl rfl rfl ?_)
          first | (refine AO.op (O.extract rfl rfl rfl) rfl rfl rfl ?_) | (refine AO.op (O.extractV rfl rfl rfl) rfl rfl rfl ?_)
          refine AO.op (O.assign rfl rfl) rfl rfl rfl ?_
          refine AO.op (O.assign rfl rfl) rfl rfl rfl ?_
          refine AO.nil ?_
          refine AQ.thenN ?_
          refine AW.seq ?_
          refine AW.region ?_
          refine AO.op (O.move rfl rfl) rfl rfl rfl ?_
          refine AO.op (O.move rfl rfl) rfl rfl rfl ?_
          first | (refine AO.op (O.call rfl Try.func31 rfl rfl rfl (rnotify_fn _ hsm.short hsq _)) rfl rfl rfl ?_) | (refine AO.op (O.callC rfl Try.func31 rfl rfl rfl (rnotify_fn _ hsm.short hsq _) (by repeat (first | exact CoeL.nil | refine CoeL.cons Coe.rfl ?_ | refine CoeL.cons Coe.nil ?_ | refine CoeL.cons Coe.unfull ?_))) rfl rfl rfl ?_) | (refine AO.op (O.callL rfl Try.func31 rfl rfl rfl (by repeat (first | exact List.Mem.head _ | refine List.Mem.tail _ ?_)) (rnotify_fn _ hsm.short hsq _) (by repeat (first | exact LendL.nil | refine LendL.same ?_ | refine LendL.lend ?_))) rfl rfl rfl ?_)
          refine AO.op (O.move rfl rfl) rfl rfl rfl ?_
          first | (refine AO.op (O.extract rfl rfl rfl) rfl rfl rfl ?_) | (refine AO.op (O.extractV rfl rfl rfl) rfl rfl rfl ?_)
          first | (refine AO.op (O.extract rfl rfl rfl) rfl rfl rfl ?_) | (refine AO.op (O.extractV rfl rfl rfl) rfl rfl rfl ?_)
          refine AO.op (O.assign rfl rfl) rfl rfl rfl ?_
          refine AO.op (O.assign rfl rfl) rfl rfl rfl ?_
          refine AO.nil ?_
          refine AQ.thenN ?_
          refine AW.seq ?_
          refine AW.region ?_
          refine AO.op (O.move rfl rfl) rfl rfl rfl ?_
          refine AO.op (O.move rfl rfl) rfl rfl rfl ?_
          first | (refine AO.op (O.call rfl Try.func20 rfl rfl rfl (same_fn _ (by first | exact small_cancel hsm _ _ | exact small_forget hsm _ | exact small_not hsm _ | exact small_told hsm _))) rfl rfl rfl ?_) | (refine AO.op (O.callC rfl Try.func20 rfl rfl rfl (same_fn _ (by first | exact small_cancel hsm _ _ | exact small_forget hsm _ | exact small_not hsm _ | exact small_told hsm _)) (by repeat (first | exact CoeL.nil | refine CoeL.cons Coe.rfl ?_ | refine CoeL.cons Coe.nil ?_ | refine CoeL.cons Coe.unfull ?_))) rfl rfl rfl ?_) | (refine AO.op (O.callL rfl Try.func20 rfl rfl rfl (by repeat (first | exact List.Mem.head _ | refine List.Mem.tail _ ?_)) (same_fn _ (by first | exact small_cancel hsm _ _ | exact small_forget hsm _ | exact small_not hsm _ | exact small_told hsm _)) (by repeat (first | exact LendL.nil | refine LendL.same ?_ | refine LendL.lend ?_))) rfl rfl rfl ?_)
          refine AO.op (O.not rfl rfl (by first | assumption | rfl)) rfl rfl rfl ?_
          refine AO.op (O.move rfl rfl) rfl rfl rfl ?_
          first | (refine AO.opG rfl rfl rfl (fun hp => O.move rfl rfl) ?_) | (refine AO.op (O.move rfl rfl) rfl rfl rfl ?_) | (refine AO.no rfl rfl rfl ?_)
          first | (refine AO.opG rfl rfl rfl (fun hp => O.move rfl rfl) ?_) | (refine AO.op (O.move rfl rfl) rfl rfl rfl ?_) | (refine AO.no rfl rfl rfl ?_)
          first | (refine AO.opG rfl rfl rfl (fun hp => OpW.force 109 rfl (by first | exact hp | simp_all) (OpW.force 110 rfl (by first | exact hp | simp_all) (O.call rfl Try.func20 rfl rfl rfl (same_fn _ (by first | exact small_cancel hsm _ _ | exact small_forget hsm _ | exact small_not hsm _ | exact small_told hsm _))))) ?_) | (refine AO.opG rfl rfl rfl (fun hp => OpW.force 109 rfl (by first | exact hp | simp_all) (OpW.force 110 rfl (by first | exact hp | simp_all) (O.callC rfl Try.func20 rfl rfl rfl (same_fn _ (by first | exact small_cancel hsm _ _ | exact small_forget hsm _ | exact small_not hsm _ | exact small_told hsm _)) (by repeat (first | exact CoeL.nil | refine CoeL.cons Coe.rfl ?_ | refine CoeL.cons Coe.nil ?_ | refine CoeL.cons Coe.unfull ?_))))) ?_) | (refine AO.opG rfl rfl rfl (fun hp => OpW.force 109 rfl (by first | exact hp | simp_all) (OpW.force 110 rfl (by first | exact hp | simp_all) (O.callL rfl Try.func20 rfl rfl rfl (by repeat (first | exact List.Mem.head _ | refine List.Mem.tail _ ?_)) (same_fn _ (by first | exact small_cancel hsm _ _ | exact small_forget hsm _ | exact small_not hsm _ | exact small_told hsm _)) (by repeat (first | exact LendL.nil | refine LendL.same ?_ | refine LendL.lend ?_))))) ?_) | (refine AO.op (O.call rfl Try.func20 rfl rfl rfl (same_fn _ (by first | exact small_cancel hsm _ _ | exact small_forget hsm _ | exact small_not hsm _ | exact small_told hsm _))) rfl rfl rfl ?_) | (refine AO.op (O.callC rfl Try.func20 rfl rfl rfl (same_fn _ (by first | exact small_cancel hsm _ _ | exact small_forget hsm _ | exact small_not hsm _ | exact small_told hsm _)) (by repeat (first | exact CoeL.nil | refine CoeL.cons Coe.rfl ?_ | refine CoeL.cons Coe.nil ?_ | refine CoeL.cons Coe.unfull ?_))) rfl rfl rfl ?_) | (refine AO.op (O.callL rfl Try.func20 rfl rfl rfl (by repeat (first | exact List.Mem.head _ | refine List.Mem.tail _ ?_)) (same_fn _ (by first | exact small_cancel hsm _ _ | exact small_forget hsm _ | exact small_not hsm _ | exact small_told hsm _)) (by repeat (first | exact LendL.nil | refine LendL.same ?_ | refine LendL.lend ?_))) rfl rfl rfl ?_) | (refine AO.no rfl rfl rfl ?_)
          first | (refine AO.opG rfl rfl rfl (fun hp => OpW.force 111 rfl (by first | exact hp | simp_all) (O.not rfl rfl (by first | assumption | rfl))) ?_) | (refine AO.op (O.not rfl rfl (by first | assumption | rfl)) rfl rfl rfl ?_) | (refine AO.no rfl rfl rfl ?_)
          first | (refine AO.op (O.pickOr rfl rfl rfl rfl (fun h => by first | exact congrArg (fun b => !b) h | simp_all)) rfl rfl rfl ?_) | (refine AO.op (O.pickT rfl rfl rfl) rfl rfl rfl ?_) | (refine AO.op (O.pickF rfl rfl rfl) rfl rfl rfl ?_)
          refine AO.nil ?_
          refine AQ.thenN ?_
          refine AW.condF rfl ?_
          refine AW.skip ?_
          refine AQ.blockN ?_
          refine AQ.thenN ?_
          refine AW.region ?_
          refine AO.op (O.add rfl rfl rfl (by first | exact wI64 (by omega) | rfl)) rfl rfl rfl ?_
          refine AO.op (O.move rfl rfl) rfl rfl rfl ?_
          refine AO.nil ?_
          refine AQ.loopN _ _ _ (by omega) (⟨j + 1, q, by omega, rfl, rfl, rfl⟩) (by repeat (first | exact envNil | refine envCons rfl ?_)) ⟨_, by repeat (first | exact List.Sublist.slnil | refine List.Sublist.cons_cons _ ?_ | refine List.Sublist.cons _ ?_), List.Perm.refl _⟩
      · skip
        refine AW.exit ?_
        refine AQ.thenX ?_
        refine AQ.loopX ?_
        refine AQ.blockX rfl ?_
        refine AQ.blockN ?_
        refine AQ.thenN ?_
        refine AW.region ?_
        refine AO.op (O.add rfl rfl rfl (by first | exact wI64 (by omega) | rfl)) rfl rfl rfl ?_
        refine AO.op (O.move rfl rfl) rfl rfl rfl ?_
        refine AO.nil ?_
        refine AQ.loopN _ _ _ (by omega) (⟨k + 1, by omega, rfl, rfl, rfl⟩) (by repeat (first | exact envNil | refine envCons rfl ?_)) ⟨_, by repeat (first | exact List.Sublist.slnil | refine List.Sublist.cons_cons _ ?_ | refine List.Sublist.cons _ ?_), List.Perm.refl _⟩
    · skip
      refine AW.exit ?_
      refine AQ.thenX ?_
      refine AQ.loopX ?_
      refine AQ.blockX rfl ?_
      refine AQ.thenN ?_
      refine AW.seq ?_
      refine AW.region ?_
      refine AO.op (O.move rfl rfl) rfl rfl rfl ?_
      refine AO.op (O.move rfl rfl) rfl rfl rfl ?_
      first | (refine AO.op (O.call rfl Try.func30 rfl rfl rfl (notify_fn _ hsm.short hsq _)) rfl rfl rfl ?_) | (refine AO.op (O.callC rfl Try.func30 rfl rfl rfl (notify_fn _ hsm.short hsq _) (by repeat (first | exact CoeL.nil | refine CoeL.cons Coe.rfl ?_ | refine CoeL.cons Coe.nil ?_ | refine CoeL.cons Coe.unfull ?_))) rfl rfl rfl ?_) | (refine AO.op (O.callL rfl Try.func30 rfl rfl rfl (by repeat (first | exact List.Mem.head _ | refine List.Mem.tail _ ?_)) (notify_fn _ hsm.short hsq _) (by repeat (first | exact LendL.nil | refine LendL.same ?_ | refine LendL.lend ?_))) rfl rfl rfl ?_)
      refine AO.op (O.move rfl rfl) rfl rfl rfl ?_
      first | (refine AO.op (O.extract rfl rfl rfl) rfl rfl rfl ?_) | (refine AO.op (O.extractV rfl rfl rfl) rfl rfl rfl ?_)
      first | (refine AO.op (O.extract rfl rfl rfl) rfl rfl rfl ?_) | (refine AO.op (O.extractV rfl rfl rfl) rfl rfl rfl ?_)
      refine AO.op (O.assign rfl rfl) rfl rfl rfl ?_
      refine AO.op (O.assign rfl rfl) rfl rfl rfl ?_
      refine AO.nil ?_
      refine AQ.thenN ?_
      refine AW.seq ?_
      refine AW.region ?_
      refine AO.op (O.move rfl rfl) rfl rfl rfl ?_
      refine AO.op (O.move rfl rfl) rfl rfl rfl ?_
      first | (refine AO.op (O.call rfl Try.func31 rfl rfl rfl (rnotify_fn _ hsm.short hsq _)) rfl rfl rfl ?_) | (refine AO.op (O.callC rfl Try.func31 rfl rfl rfl (rnotify_fn _ hsm.short hsq _) (by repeat (first | exact CoeL.nil | refine CoeL.cons Coe.rfl ?_ | refine CoeL.cons Coe.nil ?_ | refine CoeL.cons Coe.unfull ?_))) rfl rfl rfl ?_) | (refine AO.op (O.callL rfl Try.func31 rfl rfl rfl (by repeat (first | exact List.Mem.head _ | refine List.Mem.tail _ ?_)) (rnotify_fn _ hsm.short hsq _) (by repeat (first | exact LendL.nil | refine LendL.same ?_ | refine LendL.lend ?_))) rfl rfl rfl ?_)
      refine AO.op (O.move rfl rfl) rfl rfl rfl ?_
      first | (refine AO.op (O.extract rfl rfl rfl) rfl rfl rfl ?_) | (refine AO.op (O.extractV rfl rfl rfl) rfl rfl rfl ?_)
      first | (refine AO.op (O.extract rfl rfl rfl) rfl rfl rfl ?_) | (refine AO.op (O.extractV rfl rfl rfl) rfl rfl rfl ?_)
      refine AO.op (O.assign rfl rfl) rfl rfl rfl ?_
      refine AO.op (O.assign rfl rfl) rfl rfl rfl ?_
      refine AO.nil ?_
      refine AQ.thenN ?_
      refine AW.seq ?_
      refine AW.region ?_
      refine AO.op (O.move rfl rfl) rfl rfl rfl ?_
      refine AO.op (O.move rfl rfl) rfl rfl rfl ?_
      first | (refine AO.op (O.call rfl Try.func20 rfl rfl rfl (same_fn _ (by first | exact small_cancel hsm _ _ | exact small_forget hsm _ | exact small_not hsm _ | exact small_told hsm _))) rfl rfl rfl ?_) | (refine AO.op (O.callC rfl Try.func20 rfl rfl rfl (same_fn _ (by first | exact small_cancel hsm _ _ | exact small_forget hsm _ | exact small_not hsm _ | exact small_told hsm _)) (by repeat (first | exact CoeL.nil | refine CoeL.cons Coe.rfl ?_ | refine CoeL.cons Coe.nil ?_ | refine CoeL.cons Coe.unfull ?_))) rfl rfl rfl ?_) | (refine AO.op (O.callL rfl Try.func20 rfl rfl rfl (by repeat (first | exact List.Mem.head _ | refine List.Mem.tail _ ?_)) (same_fn _ (by first | exact small_cancel hsm _ _ | exact small_forget hsm _ | exact small_not hsm _ | exact small_told hsm _)) (by repeat (first | exact LendL.nil | refine LendL.same ?_ | refine LendL.lend ?_))) rfl rfl rfl ?_)
      refine AO.op (O.move rfl rfl) rfl rfl rfl ?_
      first | (refine AO.opG rfl rfl rfl (fun hp => O.move rfl rfl) ?_) | (refine AO.op (O.move rfl rfl) rfl rfl rfl ?_) | (refine AO.no rfl rfl rfl ?_)
      first | (refine AO.opG rfl rfl rfl (fun hp => O.move rfl rfl) ?_) | (refine AO.op (O.move rfl rfl) rfl rfl rfl ?_) | (refine AO.no rfl rfl rfl ?_)
      first | (refine AO.opG rfl rfl rfl (fun hp => OpW.force 132 rfl (by first | exact hp | simp_all) (OpW.force 133 rfl (by first | exact hp | simp_all) (O.call rfl Try.func20 rfl rfl rfl (same_fn _ (by first | exact small_cancel hsm _ _ | exact small_forget hsm _ | exact small_not hsm _ | exact small_told hsm _))))) ?_) | (refine AO.opG rfl rfl rfl (fun hp => OpW.force 132 rfl (by first | exact hp | simp_all) (OpW.force 133 rfl (by first | exact hp | simp_all) (O.callC rfl Try.func20 rfl rfl rfl (same_fn _ (by first | exact small_cancel hsm _ _ | exact small_forget hsm _ | exact small_not hsm _ | exact small_told hsm _)) (by repeat (first | exact CoeL.nil | refine CoeL.cons Coe.rfl ?_ | refine CoeL.cons Coe.nil ?_ | refine CoeL.cons Coe.unfull ?_))))) ?_) | (refine AO.opG rfl rfl rfl (fun hp => OpW.force 132 rfl (by first | exact hp | simp_all) (OpW.force 133 rfl (by first | exact hp | simp_all) (O.callL rfl Try.func20 rfl rfl rfl (by repeat (first | exact List.Mem.head _ | refine List.Mem.tail _ ?_)) (same_fn _ (by first | exact small_cancel hsm _ _ | exact small_forget hsm _ | exact small_not hsm _ | exact small_told hsm _)) (by repeat (first | exact LendL.nil | refine LendL.same ?_ | refine LendL.lend ?_))))) ?_) | (refine AO.op (O.call rfl Try.func20 rfl rfl rfl (same_fn _ (by first | exact small_cancel hsm _ _ | exact small_forget hsm _ | exact small_not hsm _ | exact small_told hsm _))) rfl rfl rfl ?_) | (refine AO.op (O.callC rfl Try.func20 rfl rfl rfl (same_fn _ (by first | exact small_cancel hsm _ _ | exact small_forget hsm _ | exact small_not hsm _ | exact small_told hsm _)) (by repeat (first | exact CoeL.nil | refine CoeL.cons Coe.rfl ?_ | refine CoeL.cons Coe.nil ?_ | refine CoeL.cons Coe.unfull ?_))) rfl rfl rfl ?_) | (refine AO.op (O.callL rfl Try.func20 rfl rfl rfl (by repeat (first | exact List.Mem.head _ | refine List.Mem.tail _ ?_)) (same_fn _ (by first | exact small_cancel hsm _ _ | exact small_forget hsm _ | exact small_not hsm _ | exact small_told hsm _)) (by repeat (first | exact LendL.nil | refine LendL.same ?_ | refine LendL.lend ?_))) rfl rfl rfl ?_) | (refine AO.no rfl rfl rfl ?_)
      first | (refine AO.op (O.pickAnd rfl rfl rfl rfl (fun h => by first | exact h | simp_all)) rfl rfl rfl ?_) | (refine AO.op (O.pickF rfl rfl rfl) rfl rfl rfl ?_) | (refine AO.op (O.pickT rfl rfl rfl) rfl rfl rfl ?_)
      refine AO.op (O.move rfl rfl) rfl rfl rfl ?_
      first | (refine AO.opG rfl rfl rfl (fun hp => O.call rfl Try.func11 rfl rfl rfl (awake_fn)) ?_) | (refine AO.opG rfl rfl rfl (fun hp => O.callC rfl Try.func11 rfl rfl rfl (awake_fn) (by repeat (first | exact CoeL.nil | refine CoeL.cons Coe.rfl ?_ | refine CoeL.cons Coe.nil ?_ | refine CoeL.cons Coe.unfull ?_))) ?_) | (refine AO.opG rfl rfl rfl (fun hp => O.callL rfl Try.func11 rfl rfl rfl (by repeat (first | exact List.Mem.head _ | refine List.Mem.tail _ ?_)) (awake_fn) (by repeat (first | exact LendL.nil | refine LendL.same ?_ | refine LendL.lend ?_))) ?_) | (refine AO.op (O.call rfl Try.func11 rfl rfl rfl (awake_fn)) rfl rfl rfl ?_) | (refine AO.op (O.callC rfl Try.func11 rfl rfl rfl (awake_fn) (by repeat (first | exact CoeL.nil | refine CoeL.cons Coe.rfl ?_ | refine CoeL.cons Coe.nil ?_ | refine CoeL.cons Coe.unfull ?_))) rfl rfl rfl ?_) | (refine AO.op (O.callL rfl Try.func11 rfl rfl rfl (by repeat (first | exact List.Mem.head _ | refine List.Mem.tail _ ?_)) (awake_fn) (by repeat (first | exact LendL.nil | refine LendL.same ?_ | refine LendL.lend ?_))) rfl rfl rfl ?_) | (refine AO.no rfl rfl rfl ?_)
      first | (refine AO.op (O.pickAnd rfl rfl rfl rfl (fun h => by first | exact h | simp_all)) rfl rfl rfl ?_) | (refine AO.op (O.pickF rfl rfl rfl) rfl rfl rfl ?_) | (refine AO.op (O.pickT rfl rfl rfl) rfl rfl rfl ?_)
      refine AO.op (O.assign rfl rfl) rfl rfl rfl ?_
      refine AO.nil ?_
      refine AQ.thenN ?_
      refine AW.ret ?_
      refine AQ.ret1 rfl rfl ⟨_, List.nil_sublist _, .nil⟩ (⟨rfl, rfl⟩)
end Go.Proofs.Ytlcoanbdaephiaa.Ob
