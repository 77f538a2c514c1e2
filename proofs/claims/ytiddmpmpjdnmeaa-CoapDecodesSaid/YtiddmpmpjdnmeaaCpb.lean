/-
  Layer 15: CoapBack, walked.
-/
import Derived.Test.YtiddmpmpjdnmeaaCoz
namespace Go.Proofs.Ytiddmpmpjdnmeaa.By
open Go.RowKit L A Dk
set_option linter.unusedVariables false
set_option linter.unusedSimpArgs false
attribute [local irreducible] AW AQ AO
theorem back_end {m m' : Msg} (h : ValM m) (h' : ValM m') : ((encR m).2 == 0 && (encR m').2 == 0 && (decS (encR m).1).2 == 0 && decide (m = (decS (encR m).1).1) && ((strOf (encR m).1).toList == (strOf (encR m').1).toList) == decide (m = m') && true && true) = true := by
  rw [encR_t h, encR_t h', decS_raw h, strOf_toList, strOf_toList]
  have e : (raw m == raw m') = decide (m = m') := by
    rw [Bool.eq_iff_iff]
    simp only [beq_iff_eq, decide_eq_true_eq]
    exact ⟨fun e => raw_inj h'.1 h.1 e, fun e => by rw [e]⟩
  simp [e]
set_option maxHeartbeats 4000000 in
theorem back_fn (l l' : List Int) (hl : l.length ≤ maxLen) (hl' : l'.length ≤ maxLen) : Sp Try.prog 6 [roI l, roI l'] [] (Is (.val (.bool true))) := by
  refine Sp.enter Try.func6 rfl _ Try.ntmps6 rfl (fun w0 R0 => ?_)
  refine AW.seq ?_
  refine AW.region ?_
  refine AO.op (O.assign rfl rfl) rfl rfl rfl ?_
  refine AO.nil ?_
  refine AQ.thenN ?_
  refine AW.seq ?_
  refine AW.region ?_
  refine AO.op (O.move rfl rfl) rfl rfl rfl ?_
  refine AO.opB (O.call rfl Try.func11 rfl rfl rfl (new_fn _)) rfl rfl rfl ?_
  intro B1
  refine AO.op (O.move rfl rfl) rfl rfl rfl ?_
  refine AO.opB (O.call rfl Try.func11 rfl rfl rfl (new_fn _)) rfl rfl rfl ?_
  intro B2
  refine AO.op (O.assign rfl rfl) rfl rfl rfl ?_
  refine AO.op (O.assign rfl rfl) rfl rfl rfl ?_
  refine AO.nil ?_
  refine AQ.thenN ?_
  refine AW.seq ?_
  refine AW.region ?_
  refine AO.op (O.move rfl rfl) rfl rfl rfl ?_
  refine AO.op (O.move rfl rfl) rfl rfl rfl ?_
  refine AO.callMG 1 rfl rfl Try.func14 rfl rfl rfl rfl rfl rfl (code_any _ l _ hl (by exact Nat.zero_le _)) ?_
  rintro _ _ ⟨⟨c3, hc3, rfl⟩, kd3, hkd3, rfl⟩
  dsimp only [List.cons_append, List.nil_append, List.eraseIdx]
  refine AO.callMG 0 rfl rfl Try.func13 rfl rfl rfl rfl rfl rfl (message_any _ l _ _ (by assumption) hl (by assumption)) ?_
  rintro _ _ ⟨⟨m4, hm4, rfl⟩, kd4, hkd4, rfl⟩
  dsimp only [List.cons_append, List.nil_append, List.eraseIdx]
  refine AO.op (O.move rfl rfl) rfl rfl rfl ?_
  refine AO.op (O.move rfl rfl) rfl rfl rfl ?_
  refine AO.callMG 1 rfl rfl Try.func14 rfl rfl rfl rfl rfl rfl (code_any _ l' _ hl' (by exact Nat.zero_le _)) ?_
  rintro _ _ ⟨⟨c5, hc5, rfl⟩, kd5, hkd5, rfl⟩
  dsimp only [List.cons_append, List.nil_append, List.eraseIdx]
  refine AO.callMG 0 rfl rfl Try.func13 rfl rfl rfl rfl rfl rfl (message_any _ l' _ _ (by assumption) hl' (by assumption)) ?_
  rintro _ _ ⟨⟨m6, hm6, rfl⟩, kd6, hkd6, rfl⟩
  dsimp only [List.cons_append, List.nil_append, List.eraseIdx]
  refine AO.opB (O.alloc rfl (by (dsimp only [List.set, List.append, List.cons_append, List.nil_append, roB_cells, roI_cells, roO_cells, splice, ofConst, AV.cells, List.map, List.map_cons, List.map_nil, List.take, List.drop, Nat.zero_add, Nat.add_zero, Nat.reduceAdd, Nat.reduceMul, Nat.zero_mul, Value.cells, List.toList_toArray, zerosA, List.replicate, List.flatten, List.append_nil]; done)) (by rfl)) rfl rfl rfl ?_
  intro B7
  refine AO.opB (O.alloc rfl (by (dsimp only [List.set, List.append, List.cons_append, List.nil_append, roB_cells, roI_cells, roO_cells, splice, ofConst, AV.cells, List.map, List.map_cons, List.map_nil, List.take, List.drop, Nat.zero_add, Nat.add_zero, Nat.reduceAdd, Nat.reduceMul, Nat.zero_mul, Value.cells, List.toList_toArray, zerosA, List.replicate, List.flatten, List.append_nil]; done)) (by rfl)) rfl rfl rfl ?_
  intro B8
  (refine AO.store (i := 1) rfl rfl rfl rfl rfl rfl (by rfl) (by rfl) (by rfl) (by (dsimp only [List.set, List.append, List.cons_append, List.nil_append, roB_cells, roI_cells, roO_cells, splice, ofConst, AV.cells, List.map, List.map_cons, List.map_nil, List.take, List.drop, Nat.zero_add, Nat.add_zero, Nat.reduceAdd, Nat.reduceMul, Nat.zero_mul, Value.cells, List.toList_toArray, zerosA, List.replicate, List.flatten, List.append_nil]; done)) (by (dsimp only [List.set, List.append, List.cons_append, List.nil_append, roB_cells, roI_cells, roO_cells, splice, ofConst, AV.cells, List.map, List.map_cons, List.map_nil, List.take, List.drop, Nat.zero_add, Nat.add_zero, Nat.reduceAdd, Nat.reduceMul, Nat.zero_mul, Value.cells, List.toList_toArray, zerosA, List.replicate, List.flatten, List.append_nil]; done)) ?_)
  (refine AO.store (i := 0) rfl rfl rfl rfl rfl rfl (by rfl) (by rfl) (by rfl) (by (dsimp only [List.set, List.append, List.cons_append, List.nil_append, roB_cells, roI_cells, roO_cells, splice, ofConst, AV.cells, List.map, List.map_cons, List.map_nil, List.take, List.drop, Nat.zero_add, Nat.add_zero, Nat.reduceAdd, Nat.reduceMul, Nat.zero_mul, Value.cells, List.toList_toArray, zerosA, List.replicate, List.flatten, List.append_nil]; done)) (by (dsimp only [List.set, List.append, List.cons_append, List.nil_append, roB_cells, roI_cells, roO_cells, splice, ofConst, AV.cells, List.map, List.map_cons, List.map_nil, List.take, List.drop, Nat.zero_add, Nat.add_zero, Nat.reduceAdd, Nat.reduceMul, Nat.zero_mul, Value.cells, List.toList_toArray, zerosA, List.replicate, List.flatten, List.append_nil]; done)) ?_)
  refine AO.nil ?_
  refine AQ.thenN ?_
  refine AW.seq ?_
  refine AW.region ?_
  (refine AO.op (O.loadK rfl rfl (by repeat (first | exact List.Mem.head _ | refine List.Mem.tail _ ?_)) (by (dsimp only [List.set, List.append, List.cons_append, List.nil_append, roB_cells, roI_cells, roO_cells, splice, ofConst, AV.cells, List.map, List.map_cons, List.map_nil, List.take, List.drop, Nat.zero_add, Nat.add_zero, Nat.reduceAdd, Nat.reduceMul, Nat.zero_mul, Value.cells, List.toList_toArray, zerosA, List.replicate, List.flatten, List.append_nil]; done)) (by rfl)) rfl rfl rfl ?_)
  refine AO.op (O.call rfl Try.func20 rfl rfl rfl (enc_fn m4)) rfl rfl rfl ?_
  refine AO.op (O.move rfl rfl) rfl rfl rfl ?_
  refine AO.op (O.extract rfl rfl rfl) rfl rfl rfl ?_
  refine AO.op (O.extract rfl rfl rfl) rfl rfl rfl ?_
  refine AO.op (O.assign rfl rfl) rfl rfl rfl ?_
  refine AO.op (O.assign rfl rfl) rfl rfl rfl ?_
  refine AO.nil ?_
  refine AQ.thenN ?_
  refine AW.seq ?_
  refine AW.region ?_
  (refine AO.op (O.loadK rfl rfl (by repeat (exact List.Mem.head _)) (by (dsimp only [List.set, List.append, List.cons_append, List.nil_append, roB_cells, roI_cells, roO_cells, splice, ofConst, AV.cells, List.map, List.map_cons, List.map_nil, List.take, List.drop, Nat.zero_add, Nat.add_zero, Nat.reduceAdd, Nat.reduceMul, Nat.zero_mul, Value.cells, List.toList_toArray, zerosA, List.replicate, List.flatten, List.append_nil]; done)) (by rfl)) rfl rfl rfl ?_)
  refine AO.op (O.call rfl Try.func20 rfl rfl rfl (enc_fn m6)) rfl rfl rfl ?_
  refine AO.op (O.move rfl rfl) rfl rfl rfl ?_
  refine AO.op (O.extract rfl rfl rfl) rfl rfl rfl ?_
  refine AO.op (O.extract rfl rfl rfl) rfl rfl rfl ?_
  refine AO.op (O.assign rfl rfl) rfl rfl rfl ?_
  refine AO.op (O.assign rfl rfl) rfl rfl rfl ?_
  refine AO.nil ?_
  refine AQ.thenN ?_
  refine AW.seq ?_
  refine AW.region ?_
  refine AO.op (O.move rfl rfl) rfl rfl rfl ?_
  refine AO.op (O.call rfl Try.func17 rfl rfl rfl (decode_fn _ (encR_len m4))) rfl rfl rfl ?_
  refine AO.op (O.move rfl rfl) rfl rfl rfl ?_
  refine AO.op (O.extract rfl rfl rfl) rfl rfl rfl ?_
  refine AO.op (O.extract rfl rfl rfl) rfl rfl rfl ?_
  refine AO.opB (O.alloc rfl (by (dsimp only [List.set, List.append, List.cons_append, List.nil_append, roB_cells, roI_cells, roO_cells, splice, ofConst, AV.cells, List.map, List.map_cons, List.map_nil, List.take, List.drop, Nat.zero_add, Nat.add_zero, Nat.reduceAdd, Nat.reduceMul, Nat.zero_mul, Value.cells, List.toList_toArray, zerosA, List.replicate, List.flatten, List.append_nil]; done)) (by rfl)) rfl rfl rfl ?_
  intro B9
  (refine AO.store (i := 0) rfl rfl rfl rfl rfl rfl (by rfl) (by rfl) (by rfl) (by (dsimp only [List.set, List.append, List.cons_append, List.nil_append, roB_cells, roI_cells, roO_cells, splice, ofConst, AV.cells, List.map, List.map_cons, List.map_nil, List.take, List.drop, Nat.zero_add, Nat.add_zero, Nat.reduceAdd, Nat.reduceMul, Nat.zero_mul, Value.cells, List.toList_toArray, zerosA, List.replicate, List.flatten, List.append_nil]; done)) (by (dsimp only [List.set, List.append, List.cons_append, List.nil_append, roB_cells, roI_cells, roO_cells, splice, ofConst, AV.cells, List.map, List.map_cons, List.map_nil, List.take, List.drop, Nat.zero_add, Nat.add_zero, Nat.reduceAdd, Nat.reduceMul, Nat.zero_mul, Value.cells, List.toList_toArray, zerosA, List.replicate, List.flatten, List.append_nil]; done)) ?_)
  refine AO.op (O.assign rfl rfl) rfl rfl rfl ?_
  refine AO.nil ?_
  refine AQ.thenN ?_
  refine AW.seq ?_
  refine AW.regionD 37 (by kernel_rfl) (by kernel_rfl) ?_
  simp only [List.take_succ_cons, List.take_zero, List.drop_succ_cons, List.drop_zero]
  refine FA.op (O.move rfl rfl) rfl rfl rfl rfl ?_
  refine FA.op (O.eql rfl rfl rfl (by rfl)) rfl rfl rfl rfl ?_
  refine FA.op (O.move rfl rfl) rfl rfl rfl rfl ?_
  refine FA.opG rfl rfl rfl rfl (fun hp => O.move rfl rfl) ?_
  refine FA.opG rfl rfl rfl rfl (fun hp => OpW.force 45 rfl (by exact hp) (O.eql rfl rfl rfl (by rfl))) ?_
  refine FA.op (O.pickAnd rfl rfl rfl rfl (fun h => by exact h)) rfl rfl rfl rfl ?_
  refine FA.op (O.move rfl rfl) rfl rfl rfl rfl ?_
  refine FA.opG rfl rfl rfl rfl (fun hp => O.move rfl rfl) ?_
  refine FA.opG rfl rfl rfl rfl (fun hp => OpW.force 49 rfl (by exact hp) (O.eql rfl rfl rfl (by rfl))) ?_
  refine FA.op (O.pickAnd rfl rfl rfl rfl (fun h => by exact h)) rfl rfl rfl rfl ?_
  refine FA.op (O.move rfl rfl) rfl rfl rfl rfl ?_
  (refine FA.opG rfl rfl rfl rfl (fun hp => O.loadK rfl rfl (by repeat (first | exact List.Mem.head _ | refine List.Mem.tail _ ?_)) (by (dsimp only [List.set, List.append, List.cons_append, List.nil_append, roB_cells, roI_cells, roO_cells, splice, ofConst, AV.cells, List.map, List.map_cons, List.map_nil, List.take, List.drop, Nat.zero_add, Nat.add_zero, Nat.reduceAdd, Nat.reduceMul, Nat.zero_mul, Value.cells, List.toList_toArray, zerosA, List.replicate, List.flatten, List.append_nil]; done)) (by rfl)) ?_)
  (refine FA.opG rfl rfl rfl rfl (fun hp => O.loadK rfl rfl (by repeat (exact List.Mem.head _)) (by (dsimp only [List.set, List.append, List.cons_append, List.nil_append, roB_cells, roI_cells, roO_cells, splice, ofConst, AV.cells, List.map, List.map_cons, List.map_nil, List.take, List.drop, Nat.zero_add, Nat.add_zero, Nat.reduceAdd, Nat.reduceMul, Nat.zero_mul, Value.cells, List.toList_toArray, zerosA, List.replicate, List.flatten, List.append_nil]; done)) (by rfl)) ?_)
  (refine FA.opG rfl rfl rfl rfl (fun hp => OpW.force 53 rfl (by exact hp) (OpW.force 54 rfl (by exact hp) (O.call rfl Try.func19 rfl rfl rfl (same_fn m4 (decS (encR m4).1).1 (by have := hm4.2.2.2.2.1; omega))))) ?_)
  refine FA.op (O.pickAnd rfl rfl rfl rfl (fun h => by exact h)) rfl rfl rfl rfl ?_
  refine FA.op (O.move rfl rfl) rfl rfl rfl rfl ?_
  refine FA.opG rfl rfl rfl rfl (fun hp => O.move rfl rfl) ?_
  refine FA.opG rfl rfl rfl rfl (fun hp => OpW.force 58 rfl (by exact hp) (O.convS rfl rfl (by rfl))) ?_
  refine FA.opG rfl rfl rfl rfl (fun hp => O.move rfl rfl) ?_
  refine FA.opG rfl rfl rfl rfl (fun hp => OpW.force 60 rfl (by exact hp) (O.convS rfl rfl (by rfl))) ?_
  refine FA.opG rfl rfl rfl rfl (fun hp => OpW.force 59 rfl (by exact hp) (OpW.force 61 rfl (by exact hp) (O.eqlS rfl rfl rfl (by rfl)))) ?_
  (refine FA.opG rfl rfl rfl rfl (fun hp => O.loadK rfl rfl (by repeat (first | exact List.Mem.head _ | refine List.Mem.tail _ ?_)) (by (dsimp only [List.set, List.append, List.cons_append, List.nil_append, roB_cells, roI_cells, roO_cells, splice, ofConst, AV.cells, List.map, List.map_cons, List.map_nil, List.take, List.drop, Nat.zero_add, Nat.add_zero, Nat.reduceAdd, Nat.reduceMul, Nat.zero_mul, Value.cells, List.toList_toArray, zerosA, List.replicate, List.flatten, List.append_nil]; done)) (by rfl)) ?_)
  (refine FA.opG rfl rfl rfl rfl (fun hp => O.loadK rfl rfl (by repeat (first | exact List.Mem.head _ | refine List.Mem.tail _ ?_)) (by (dsimp only [List.set, List.append, List.cons_append, List.nil_append, roB_cells, roI_cells, roO_cells, splice, ofConst, AV.cells, List.map, List.map_cons, List.map_nil, List.take, List.drop, Nat.zero_add, Nat.add_zero, Nat.reduceAdd, Nat.reduceMul, Nat.zero_mul, Value.cells, List.toList_toArray, zerosA, List.replicate, List.flatten, List.append_nil]; done)) (by rfl)) ?_)
  (refine FA.opG rfl rfl rfl rfl (fun hp => OpW.force 63 rfl (by exact hp) (OpW.force 64 rfl (by exact hp) (O.call rfl Try.func19 rfl rfl rfl (same_fn m4 m6 (by have := hm4.2.2.2.2.1; omega))))) ?_)
  refine FA.opG rfl rfl rfl rfl (fun hp => OpW.force 62 rfl (by exact hp) (OpW.force 65 rfl (by exact hp) (O.eqlB rfl rfl rfl (by rfl)))) ?_
  refine FA.op (O.pickAnd rfl rfl rfl rfl (fun h => by exact h)) rfl rfl rfl rfl ?_
  refine FA.op (O.move rfl rfl) rfl rfl rfl rfl ?_
  refine FA.opG rfl rfl rfl rfl (fun hp => O.move rfl rfl) ?_
  refine FA.opG rfl rfl rfl rfl (fun hp => OpW.force 69 rfl (by exact hp) (O.lenR rfl rfl)) ?_
  (refine FA.opG rfl rfl rfl rfl (fun hp => O.loadK rfl rfl (by repeat (first | exact List.Mem.head _ | refine List.Mem.tail _ ?_)) (by (dsimp only [List.set, List.append, List.cons_append, List.nil_append, roB_cells, roI_cells, roO_cells, splice, ofConst, AV.cells, List.map, List.map_cons, List.map_nil, List.take, List.drop, Nat.zero_add, Nat.add_zero, Nat.reduceAdd, Nat.reduceMul, Nat.zero_mul, Value.cells, List.toList_toArray, zerosA, List.replicate, List.flatten, List.append_nil]; done)) (by rfl)) ?_)
  refine FA.opG rfl rfl rfl rfl (fun hp => OpW.force 71 rfl (by exact hp) (O.call rfl Try.func23 rfl rfl rfl (size_fn m4))) ?_
  refine FA.opG rfl rfl rfl rfl (fun hp => OpW.force 70 rfl (by exact hp) (OpW.force 72 rfl (by exact hp) (O.eql rfl rfl rfl (by exact beq_iff_eq.2 (by omega))))) ?_
  refine FA.op (O.pickAnd rfl rfl rfl rfl (fun h => by exact h)) rfl rfl rfl rfl ?_
  refine FA.op (O.move rfl rfl) rfl rfl rfl rfl ?_
  refine FA.opG rfl rfl rfl rfl (fun hp => O.call rfl Try.func10 rfl rfl rfl (awake_fn)) ?_
  refine FA.op (O.pickAnd rfl rfl rfl rfl (fun h => by exact h)) rfl rfl rfl rfl ?_
  refine FA.op (O.assign rfl rfl) rfl rfl rfl rfl ?_
  refine FA.nil ?_
  simp only [chosen, List.nil_append, List.cons_append, List.append_nil]
  refine AO.nil ?_
  refine AQ.thenN ?_
  refine AW.ret ?_
  refine AQ.ret1 rfl rfl ⟨_, List.nil_sublist _, .nil⟩ (⟨congrArg (fun z => AV.val (.bool z)) (back_end hm4.1 hm6.1), rfl⟩)
end Go.Proofs.Ytiddmpmpjdnmeaa.By
