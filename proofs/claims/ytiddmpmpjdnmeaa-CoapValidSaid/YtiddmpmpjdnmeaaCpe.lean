/-
  Layer 15: CoapValid, walked.
-/
import Derived.Test.YtiddmpmpjdnmeaaPf
import Derived.Test.YtiddmpmpjdnmeaaCov
namespace Go.Proofs.Ytiddmpmpjdnmeaa.By
open Go.RowKit L A Dk
set_option linter.unusedVariables false
set_option linter.unusedSimpArgs false
attribute [local irreducible] AW AQ AO
set_option maxHeartbeats 4000000 in
theorem lawValid_fn (m : Msg) (l : List Int) (w by' : Int) (hpay : m.pay.length ≤ maxLen) (hl : l.length ≤ maxLen) (hby : -9223372036854775808 ≤ by' ∧ by' ≤ 9223372036854775807) : Sp Try.prog 7 [aggM m, roI l, .val (.int .i64 w), .val (.int .i64 by')] [] (Is (.val (.bool true))) := by
  refine Sp.enter Try.func7 rfl _ Try.ntmps7 rfl (fun w0 R0 => ?_)
  refine AW.seq ?_
  refine AW.region ?_
  refine AO.opB (O.box rfl rfl rfl rfl rfl) rfl rfl rfl ?_
  intro B1
  refine AO.op (O.assign rfl rfl) rfl rfl rfl ?_
  refine AO.nil ?_
  refine AQ.thenN ?_
  refine AW.seq ?_
  refine AW.seq ?_
  refine AW.region ?_
  refine AO.op (O.loadK rfl rfl (by repeat (exact List.Mem.head _)) (by rfl) (by rfl)) rfl rfl rfl ?_
  refine AO.op (O.call rfl Try.func24 rfl rfl rfl (light_fn m hpay)) rfl rfl rfl ?_
  refine AO.op (O.not rfl rfl (by rfl)) rfl rfl rfl ?_
  refine AO.nil ?_
  refine AQ.thenN ?_
  refine AW.split rfl (fun h => ?_) (fun h => ?_) <;> (try simp only [decide_eq_true_eq, decide_eq_false_iff_not, beq_iff_eq, beq_eq_false_iff_ne, bne_iff_ne, bne_eq_false_iff_eq, Bool.not_eq_true', Bool.not_eq_false', Bool.not_eq_true, Bool.not_eq_false, ne_eq, Int.not_lt, Int.not_le, Bool.and_eq_true, Bool.or_eq_true, Bool.or_eq_false_iff, Bool.and_eq_false_imp, strOf_toList, Decidable.not_not] at h)
  · skip
    refine AW.seq ?_
    refine AW.region ?_
    refine AO.op (O.call rfl Try.func10 rfl rfl rfl (awake_fn)) rfl rfl rfl ?_
    refine AO.op (O.assign rfl rfl) rfl rfl rfl ?_
    refine AO.nil ?_
    refine AQ.thenN ?_
    refine AW.ret ?_
    refine AQ.thenR ?_
    refine AQ.ret1 rfl rfl ⟨_, List.nil_sublist _, .nil⟩ (⟨rfl, rfl⟩)
  · skip
    refine AW.skip ?_
    refine AQ.thenN ?_
    refine AW.seq ?_
    refine AW.region ?_
    refine AO.op (O.move rfl rfl) rfl rfl rfl ?_
    refine AO.opB (O.call rfl Try.func11 rfl rfl rfl (new_fn _)) rfl rfl rfl ?_
    intro B2
    refine AO.op (O.assign rfl rfl) rfl rfl rfl ?_
    refine AO.nil ?_
    refine AQ.thenN ?_
    refine AW.seq ?_
    refine AW.region ?_
    refine AO.op (O.move rfl rfl) rfl rfl rfl ?_
    refine AO.op (O.move rfl rfl) rfl rfl rfl ?_
    refine AO.callMG 0 rfl rfl Try.func14 rfl rfl rfl rfl rfl rfl (code_any _ l _ hl (by exact Nat.zero_le _)) ?_
    rintro _ _ ⟨⟨c3, hc3, rfl⟩, kd3, hkd3, rfl⟩
    dsimp only [List.cons_append, List.nil_append, List.eraseIdx]
    refine AO.callMG 0 rfl rfl Try.func13 rfl rfl rfl rfl rfl rfl (message_any _ l _ _ (by assumption) hl (by assumption)) ?_
    rintro _ _ ⟨⟨m4, hm4, rfl⟩, kd4, hkd4, rfl⟩
    dsimp only [List.cons_append, List.nil_append, List.eraseIdx]
    refine AO.opB (O.alloc rfl (by (dsimp only [List.set, List.append, List.cons_append, List.nil_append, roB_cells, roI_cells, roO_cells, splice, ofConst, AV.cells, List.map, List.map_cons, List.map_nil, List.take, List.drop, Nat.zero_add, Nat.add_zero, Nat.reduceAdd, Nat.reduceMul, Nat.zero_mul, Value.cells, List.toList_toArray, zerosA, List.replicate, List.flatten, List.append_nil]; done)) (by rfl)) rfl rfl rfl ?_
    intro B5
    (refine AO.store (i := 0) rfl rfl rfl rfl rfl rfl (by rfl) (by rfl) (by rfl) (by (dsimp only [List.set, List.append, List.cons_append, List.nil_append, roB_cells, roI_cells, roO_cells, splice, ofConst, AV.cells, List.map, List.map_cons, List.map_nil, List.take, List.drop, Nat.zero_add, Nat.add_zero, Nat.reduceAdd, Nat.reduceMul, Nat.zero_mul, Value.cells, List.toList_toArray, zerosA, List.replicate, List.flatten, List.append_nil]; done)) (by (dsimp only [List.set, List.append, List.cons_append, List.nil_append, roB_cells, roI_cells, roO_cells, splice, ofConst, AV.cells, List.map, List.map_cons, List.map_nil, List.take, List.drop, Nat.zero_add, Nat.add_zero, Nat.reduceAdd, Nat.reduceMul, Nat.zero_mul, Value.cells, List.toList_toArray, zerosA, List.replicate, List.flatten, List.append_nil]; done)) ?_)
    refine AO.nil ?_
    refine AQ.thenN ?_
    refine AW.seq ?_
    refine AW.seq ?_
    refine AW.regionM [(0, false), (1, false), (2, false), (3, false), (4, false), (8, false), (5, true), (6, false), (7, false)] (by kernel_rfl) (by kernel_rfl) (by exact splitNil) ?_
    dsimp only [List.eraseIdx]
    refine AM.op rfl (O.loadK rfl rfl (by repeat (first | exact List.Mem.head _ | refine List.Mem.tail _ ?_)) (by rfl) (by rfl)) rfl rfl rfl ?_
    refine AM.op rfl (O.loadK rfl rfl (by repeat (exact List.Mem.head _)) (by rfl) (by rfl)) rfl rfl rfl ?_
    refine AM.op rfl (O.loadK rfl rfl (by repeat (exact List.Mem.head _)) (by rfl) (by rfl)) rfl rfl rfl ?_
    refine AM.op rfl (O.move rfl rfl) rfl rfl rfl ?_
    refine AM.op rfl (O.move rfl rfl) rfl rfl rfl ?_
    refine AM.op rfl (O.move rfl rfl) rfl rfl rfl ?_
    refine AM.main _ rfl (fun w0 R0 => ?_)
    (refine AO.opN (O.call rfl Try.func25 rfl rfl rfl (spoiltM_fn _ _ _ hm4.sm (by have := hm4.2.2.2.2.1; omega) hby)) rfl rfl rfl ?_)
    rintro _ _ ⟨⟨m6, hm6, rfl⟩, rfl⟩
    simp only [List.cons_append, List.nil_append]
    refine AM.ok ?_
    dsimp only [putE]
    refine AM.op rfl (OpW.frz (O.buildSlice rfl rfl rfl (by rfl) (by rfl) (by rfl) (by rfl)) (by (unfold maxLen; omega))) rfl rfl rfl ?_
    refine AM.op rfl (O.lenR rfl rfl) rfl rfl rfl ?_
    refine AM.nil ?_
    dsimp only [List.cons_append, List.nil_append]
    refine AQ.thenN ?_
    refine AW.block ?_
    refine AW.g ?_
    refine G.re 33 (roMs [m, m4, m6]) rfl ?_
    refine AW.u ?_
    refine AW.loopK [(10, _), (33, _), (34, _)] (fun nn E H => ∃ (k : Nat), (k ≤ 3) ∧ nn = 3 - k ∧ E = [(35, .val (.int .i64 (k : Int)))] ∧ H = [.blk B5 31 6 [.val (.int .i64 m4.ty), .val (.int .i64 m4.code), .val (.int .i64 m4.id), roB m4.tok, roO m4.opts, roB m4.pay]]) _ (⟨0, by omega, rfl, rfl, rfl⟩) (by repeat (first | exact envNil | refine envCons rfl ?_)) (by repeat (first | exact envNil | refine envCons rfl ?_)) (by repeat (first | exact subPnil | refine subPcons 0 rfl ?_)) ?_
    rintro nn E H ⟨k, hk, rfl, rfl, rfl⟩
    dsimp only [List.cons_append, List.nil_append]
    refine AW.seq ?_
    refine AW.region ?_
    refine AO.op (O.lss rfl rfl rfl (by rfl)) rfl rfl rfl ?_
    refine AO.nil ?_
    refine AQ.thenN ?_
    refine AW.seq ?_
    refine AW.split rfl (fun h2 => ?_) (fun h2 => ?_) <;> (try simp only [decide_eq_true_eq, decide_eq_false_iff_not, beq_iff_eq, beq_eq_false_iff_ne, bne_iff_ne, bne_eq_false_iff_eq, Bool.not_eq_true', Bool.not_eq_false', Bool.not_eq_true, Bool.not_eq_false, ne_eq, Int.not_lt, Int.not_le, Bool.and_eq_true, Bool.or_eq_true, Bool.or_eq_false_iff, Bool.and_eq_false_imp, strOf_toList, Decidable.not_not] at h2)
    · skip
      have hk2 : k < 3 := by omega
      obtain ⟨x, hx⟩ : ∃ x, x = mat [m, m4, m6] k := ⟨_, rfl⟩
      have hra : ((msgsA [m, m4, m6]).drop ((k : Int).toNat * 6)).take 6 = [.val (.int .i64 x.ty), .val (.int .i64 x.code), .val (.int .i64 x.id), roB x.tok, roO x.opts, roB x.pay] := by rw [hx]; exact getMs (ms := [m, m4, m6]) hk2 (by omega)
      refine AW.skip ?_
      refine AQ.thenN ?_
      refine AW.seq ?_
      refine AW.block ?_
      refine AW.seq ?_
      refine AW.region ?_
      refine AO.op (O.idxR rfl rfl rfl ⟨(by omega), (by omega)⟩) rfl rfl rfl ?_
      refine AO.op (O.loadRK rfl rfl (by exact hra) (by rfl)) rfl rfl rfl ?_
      refine AO.opB (O.alloc rfl (by (dsimp only [List.set, List.append, List.cons_append, List.nil_append, roB_cells, roI_cells, roO_cells, splice, ofConst, AV.cells, List.map, List.map_cons, List.map_nil, List.take, List.drop, Nat.zero_add, Nat.add_zero, Nat.reduceAdd, Nat.reduceMul, Nat.zero_mul, Value.cells, List.toList_toArray, zerosA, List.replicate, List.flatten, List.append_nil]; done)) (by rfl)) rfl rfl rfl ?_
      intro B7
      (refine AO.store (i := 0) rfl rfl rfl rfl rfl rfl (by rfl) (by rfl) (by rfl) (by (dsimp only [List.set, List.append, List.cons_append, List.nil_append, roB_cells, roI_cells, roO_cells, splice, ofConst, AV.cells, List.map, List.map_cons, List.map_nil, List.take, List.drop, Nat.zero_add, Nat.add_zero, Nat.reduceAdd, Nat.reduceMul, Nat.zero_mul, Value.cells, List.toList_toArray, zerosA, List.replicate, List.flatten, List.append_nil]; done)) (by (dsimp only [List.set, List.append, List.cons_append, List.nil_append, roB_cells, roI_cells, roO_cells, splice, ofConst, AV.cells, List.map, List.map_cons, List.map_nil, List.take, List.drop, Nat.zero_add, Nat.add_zero, Nat.reduceAdd, Nat.reduceMul, Nat.zero_mul, Value.cells, List.toList_toArray, zerosA, List.replicate, List.flatten, List.append_nil]; done)) ?_)
      refine AO.nil ?_
      refine AQ.thenN ?_
      refine AW.seq ?_
      refine AW.region ?_
      refine AO.op (O.loadK rfl rfl (by repeat (exact List.Mem.head _)) (by rfl) (by rfl)) rfl rfl rfl ?_
      refine AO.op (O.call rfl Try.func20 rfl rfl rfl (enc_fn x)) rfl rfl rfl ?_
      refine AO.op (O.move rfl rfl) rfl rfl rfl ?_
      refine AO.op (O.extract rfl rfl rfl) rfl rfl rfl ?_
      refine AO.op (O.extract rfl rfl rfl) rfl rfl rfl ?_
      refine AO.op (O.assign rfl rfl) rfl rfl rfl ?_
      refine AO.op (O.assign rfl rfl) rfl rfl rfl ?_
      refine AO.nil ?_
      refine AQ.thenN ?_
      refine AW.seq ?_
      refine AW.region ?_
      refine AO.op (O.loadK rfl rfl (by repeat (exact List.Mem.head _)) (by rfl) (by rfl)) rfl rfl rfl ?_
      refine AO.op (O.call rfl Try.func21 rfl rfl rfl (renc_fn x)) rfl rfl rfl ?_
      refine AO.op (O.move rfl rfl) rfl rfl rfl ?_
      refine AO.op (O.extract rfl rfl rfl) rfl rfl rfl ?_
      refine AO.op (O.extract rfl rfl rfl) rfl rfl rfl ?_
      refine AO.op (O.assign rfl rfl) rfl rfl rfl ?_
      refine AO.op (O.assign rfl rfl) rfl rfl rfl ?_
      refine AO.nil ?_
      refine AQ.thenN ?_
      refine AW.seq ?_
      refine AW.regionD 24 (by kernel_rfl) (by kernel_rfl) ?_
      simp only [List.take_succ_cons, List.take_zero, List.drop_succ_cons, List.drop_zero]
      refine FA.op (O.loadK rfl rfl (by repeat (exact List.Mem.head _)) (by rfl) (by rfl)) rfl rfl rfl rfl ?_
      refine FA.op (O.call rfl Try.func22 rfl rfl rfl (valid_fn x)) rfl rfl rfl rfl ?_
      refine FA.op (O.loadK rfl rfl (by repeat (exact List.Mem.head _)) (by rfl) (by rfl)) rfl rfl rfl rfl ?_
      refine FA.op (O.call rfl Try.func26 rfl rfl rfl (rvalid_fn x)) rfl rfl rfl rfl ?_
      refine FA.op (O.neqB rfl rfl rfl (by rfl)) rfl rfl rfl rfl ?_
      refine FA.op (O.move rfl rfl) rfl rfl rfl rfl ?_
      refine FA.opG rfl rfl rfl rfl (fun hp => O.loadK rfl rfl (by repeat (exact List.Mem.head _)) (by rfl) (by rfl)) ?_
      refine FA.opG rfl rfl rfl rfl (fun hp => OpW.force 55 rfl (by exact hp) (O.call rfl Try.func23 rfl rfl rfl (size_fn x))) ?_
      refine FA.opG rfl rfl rfl rfl (fun hp => O.loadK rfl rfl (by repeat (exact List.Mem.head _)) (by rfl) (by rfl)) ?_
      refine FA.opG rfl rfl rfl rfl (fun hp => OpW.force 57 rfl (by exact hp) (O.call rfl Try.func27 rfl rfl rfl (rsize_fn x))) ?_
      refine FA.opG rfl rfl rfl rfl (fun hp => OpW.force 56 rfl (by exact hp) (OpW.force 58 rfl (by exact hp) (O.neq rfl rfl rfl (by exact bne_eq_false_iff_eq.2 (by omega))))) ?_
      refine FA.op (O.pickOr rfl rfl rfl rfl (fun h => by exact congrArg (fun b => !b) h)) rfl rfl rfl rfl ?_
      refine FA.op (O.move rfl rfl) rfl rfl rfl rfl ?_
      refine FA.opG rfl rfl rfl rfl (fun hp => O.move rfl rfl) ?_
      refine FA.opG rfl rfl rfl rfl (fun hp => OpW.force 62 rfl (by exact hp) (O.convS rfl rfl (by rfl))) ?_
      refine FA.opG rfl rfl rfl rfl (fun hp => O.move rfl rfl) ?_
      refine FA.opG rfl rfl rfl rfl (fun hp => OpW.force 64 rfl (by exact hp) (O.convS rfl rfl (by rfl))) ?_
      refine FA.opG rfl rfl rfl rfl (fun hp => OpW.force 63 rfl (by exact hp) (OpW.force 65 rfl (by exact hp) (O.neqS rfl rfl rfl (by rfl)))) ?_
      refine FA.op (O.pickOr rfl rfl rfl rfl (fun h => by exact congrArg (fun b => !b) h)) rfl rfl rfl rfl ?_
      refine FA.op (O.move rfl rfl) rfl rfl rfl rfl ?_
      refine FA.opG rfl rfl rfl rfl (fun hp => O.move rfl rfl) ?_
      refine FA.opG rfl rfl rfl rfl (fun hp => O.move rfl rfl) ?_
      refine FA.opG rfl rfl rfl rfl (fun hp => OpW.force 69 rfl (by exact hp) (OpW.force 70 rfl (by exact hp) (O.neq rfl rfl rfl (by exact bne_eq_false_iff_eq.2 (by omega))))) ?_
      refine FA.op (O.pickOr rfl rfl rfl rfl (fun h => by exact congrArg (fun b => !b) h)) rfl rfl rfl rfl ?_
      refine FA.nil ?_
      simp only [chosen, List.nil_append, List.cons_append, List.append_nil]
      refine AO.nil ?_
      refine AQ.thenN ?_
      refine AW.split rfl (fun h3 => ?_) (fun h3 => ?_)
      · skip
        simp at h3
      · skip
        refine AW.skip ?_
        refine AQ.blockN ?_
        refine AQ.thenN ?_
        refine AW.region ?_
        refine AO.op (O.add rfl rfl rfl (by exact wI64 (by omega))) rfl rfl rfl ?_
        refine AO.op (O.move rfl rfl) rfl rfl rfl ?_
        refine AO.nil ?_
        refine AQ.loopKN _ _ _ (by omega) (⟨k + 1, by omega, rfl, rfl, rfl⟩) (by repeat (first | exact envNil | refine envCons rfl ?_)) (by repeat (first | exact envNil | refine envCons rfl ?_)) (by repeat (first | exact subPnil | refine subPcons 1 rfl ?_))
    · skip
      refine AW.exit ?_
      refine AQ.thenX ?_
      refine AQ.loopX ?_
      refine AQ.blockX rfl ?_
      refine AQ.thenN ?_
      refine AW.seq ?_
      refine AW.region ?_
      refine AO.op (O.loadK rfl rfl (by repeat (exact List.Mem.head _)) (by rfl) (by rfl)) rfl rfl rfl ?_
      refine AO.op (O.call rfl Try.func22 rfl rfl rfl (valid_fn m4)) rfl rfl rfl ?_
      refine AO.op (O.move rfl rfl) rfl rfl rfl ?_
      refine AO.opG rfl rfl rfl (fun hp => O.call rfl Try.func10 rfl rfl rfl (awake_fn)) ?_
      refine AO.op (O.pickAnd rfl rfl rfl rfl (fun h => by exact h)) rfl rfl rfl ?_
      refine AO.op (O.assign rfl rfl) rfl rfl rfl ?_
      refine AO.nil ?_
      refine AQ.thenN ?_
      refine AW.ret ?_
      refine AQ.ret1 rfl rfl ⟨_, List.nil_sublist _, .nil⟩ (⟨congrArg (fun z => AV.val (.bool z)) (show (decide (ValM m4) && true) = true by rw [decide_eq_true hm4.1]; rfl), rfl⟩)
end Go.Proofs.Ytiddmpmpjdnmeaa.By
