/-
  Layer 27: the law CompressBack, walked.
-/
import Derived.Test.YtbkclbbhdeohfaaCs
namespace Go.Proofs.Ytbkclbbhdeohfaa.By
open Go.RowKit L A Dk
set_option linter.unusedVariables false
set_option linter.unusedSimpArgs false
attribute [local irreducible] AW AQ AO
set_option maxHeartbeats 4000000 in
theorem lawBack_fn (l : List Int) (raw : List UInt8) (at' by' : Int) (hl : l.length ≤ maxLen) (hby : -9223372036854775808 ≤ by' ∧ by' ≤ 9223372036854775807) : Sp Try.prog 5 [roI l, roB raw, .val (.int .i64 at'), .val (.int .i64 by')] [] (Is (.val (.bool true))) := by
  refine Sp.enter Try.func5 rfl _ Try.ntmps5 rfl (fun w0 R0 => ?_)
  refine AW.seq ?_
  refine AW.region ?_
  refine AO.op (O.assign rfl rfl) rfl rfl rfl ?_
  refine AO.nil ?_
  refine AQ.thenN ?_
  refine AW.seq ?_
  refine AW.region ?_
  refine AO.op (O.move rfl rfl) rfl rfl rfl ?_
  refine AO.opB (O.call rfl Try.func10 rfl rfl rfl (new_fn _)) rfl rfl rfl ?_
  intro B1
  refine AO.callMG 0 rfl rfl Try.func9 rfl rfl rfl rfl rfl rfl (made_any _ l _ hl (Nat.zero_le _)) ?_
  rintro _ _ ⟨⟨c2, hc2, rfl⟩, kd2, hkd2, rfl⟩
  dsimp only [List.cons_append, List.nil_append, List.eraseIdx]
  refine AO.opB (O.alloc rfl (by (dsimp only [List.set, List.append, List.cons_append, List.nil_append, roB_cells, roI_cells, roO_cells, splice, ofConst, AV.cells, List.map, List.map_cons, List.map_nil, List.take, List.drop, Nat.zero_add, Nat.add_zero, Nat.reduceAdd, Nat.reduceMul, Nat.zero_mul, Value.cells, List.toList_toArray, zerosA, List.replicate, List.flatten, List.append_nil]; done)) (by rfl)) rfl rfl rfl ?_
  intro B3
  (refine AO.store (i := 0) rfl rfl rfl rfl rfl rfl (by rfl) (by rfl) (by rfl) (by (dsimp only [List.set, List.append, List.cons_append, List.nil_append, roB_cells, roI_cells, roO_cells, splice, ofConst, AV.cells, List.map, List.map_cons, List.map_nil, List.take, List.drop, Nat.zero_add, Nat.add_zero, Nat.reduceAdd, Nat.reduceMul, Nat.zero_mul, Value.cells, List.toList_toArray, zerosA, List.replicate, List.flatten, List.append_nil]; done)) (by (dsimp only [List.set, List.append, List.cons_append, List.nil_append, roB_cells, roI_cells, roO_cells, splice, ofConst, AV.cells, List.map, List.map_cons, List.map_nil, List.take, List.drop, Nat.zero_add, Nat.add_zero, Nat.reduceAdd, Nat.reduceMul, Nat.zero_mul, Value.cells, List.toList_toArray, zerosA, List.replicate, List.flatten, List.append_nil]; done)) ?_)
  refine AO.nil ?_
  refine AQ.thenN ?_
  refine AW.seq ?_
  refine AW.region ?_
  (refine AO.op (O.loadK rfl rfl (by repeat (exact List.Mem.head _)) (by (dsimp only [List.set, List.append, List.cons_append, List.nil_append, roB_cells, roI_cells, roO_cells, splice, ofConst, AV.cells, List.map, List.map_cons, List.map_nil, List.take, List.drop, Nat.zero_add, Nat.add_zero, Nat.reduceAdd, Nat.reduceMul, Nat.zero_mul, Value.cells, List.toList_toArray, zerosA, List.replicate, List.flatten, List.append_nil]; done)) (by rfl)) rfl rfl rfl ?_)
  refine AO.op (O.call rfl Try.func17 rfl rfl rfl (cencode_fn c2)) rfl rfl rfl ?_
  refine AO.op (O.move rfl rfl) rfl rfl rfl ?_
  refine AO.op (O.extract rfl rfl rfl) rfl rfl rfl ?_
  refine AO.op (O.extract rfl rfl rfl) rfl rfl rfl ?_
  refine AO.op (O.assign rfl rfl) rfl rfl rfl ?_
  refine AO.op (O.assign rfl rfl) rfl rfl rfl ?_
  refine AO.nil ?_
  refine AQ.thenN ?_
  refine AW.seq ?_
  refine AW.region ?_
  refine AO.op (O.move rfl rfl) rfl rfl rfl ?_
  refine AO.op (O.call rfl Try.func13 rfl rfl rfl (cdecode_fn _)) rfl rfl rfl ?_
  refine AO.op (O.move rfl rfl) rfl rfl rfl ?_
  refine AO.op (O.extract rfl rfl rfl) rfl rfl rfl ?_
  refine AO.op (O.extract rfl rfl rfl) rfl rfl rfl ?_
  refine AO.opB (O.alloc rfl (by (dsimp only [List.set, List.append, List.cons_append, List.nil_append, roB_cells, roI_cells, roO_cells, splice, ofConst, AV.cells, List.map, List.map_cons, List.map_nil, List.take, List.drop, Nat.zero_add, Nat.add_zero, Nat.reduceAdd, Nat.reduceMul, Nat.zero_mul, Value.cells, List.toList_toArray, zerosA, List.replicate, List.flatten, List.append_nil]; done)) (by rfl)) rfl rfl rfl ?_
  intro B4
  (refine AO.store (i := 0) rfl rfl rfl rfl rfl rfl (by rfl) (by rfl) (by rfl) (by (dsimp only [List.set, List.append, List.cons_append, List.nil_append, roB_cells, roI_cells, roO_cells, splice, ofConst, AV.cells, List.map, List.map_cons, List.map_nil, List.take, List.drop, Nat.zero_add, Nat.add_zero, Nat.reduceAdd, Nat.reduceMul, Nat.zero_mul, Value.cells, List.toList_toArray, zerosA, List.replicate, List.flatten, List.append_nil]; done)) (by (dsimp only [List.set, List.append, List.cons_append, List.nil_append, roB_cells, roI_cells, roO_cells, splice, ofConst, AV.cells, List.map, List.map_cons, List.map_nil, List.take, List.drop, Nat.zero_add, Nat.add_zero, Nat.reduceAdd, Nat.reduceMul, Nat.zero_mul, Value.cells, List.toList_toArray, zerosA, List.replicate, List.flatten, List.append_nil]; done)) ?_)
  refine AO.op (O.assign rfl rfl) rfl rfl rfl ?_
  refine AO.nil ?_
  refine AQ.thenN ?_
  refine AW.seq ?_
  refine AW.seq ?_
  refine AW.region ?_
  refine AO.op (O.move rfl rfl) rfl rfl rfl ?_
  refine AO.op (O.neq rfl rfl rfl (by rfl)) rfl rfl rfl ?_
  refine AO.op (O.move rfl rfl) rfl rfl rfl ?_
  refine AO.opG rfl rfl rfl (fun hp => O.move rfl rfl) ?_
  refine AO.opG rfl rfl rfl (fun hp => OpW.force 36 rfl (by exact hp) (O.neq rfl rfl rfl (by rfl))) ?_
  refine AO.op (O.pickOr rfl rfl rfl rfl (fun h => by exact congrArg (fun b => !b) h)) rfl rfl rfl ?_
  refine AO.op (O.move rfl rfl) rfl rfl rfl ?_
  (refine AO.opG rfl rfl rfl (fun hp => O.loadK rfl rfl (by repeat (first | exact List.Mem.head _ | refine List.Mem.tail _ ?_)) (by (dsimp only [List.set, List.append, List.cons_append, List.nil_append, roB_cells, roI_cells, roO_cells, splice, ofConst, AV.cells, List.map, List.map_cons, List.map_nil, List.take, List.drop, Nat.zero_add, Nat.add_zero, Nat.reduceAdd, Nat.reduceMul, Nat.zero_mul, Value.cells, List.toList_toArray, zerosA, List.replicate, List.flatten, List.append_nil]; done)) (by rfl)) ?_)
  (refine AO.opG rfl rfl rfl (fun hp => O.loadK rfl rfl (by repeat (exact List.Mem.head _)) (by (dsimp only [List.set, List.append, List.cons_append, List.nil_append, roB_cells, roI_cells, roO_cells, splice, ofConst, AV.cells, List.map, List.map_cons, List.map_nil, List.take, List.drop, Nat.zero_add, Nat.add_zero, Nat.reduceAdd, Nat.reduceMul, Nat.zero_mul, Value.cells, List.toList_toArray, zerosA, List.replicate, List.flatten, List.append_nil]; done)) (by rfl)) ?_)
  refine AO.opG rfl rfl rfl (fun hp => OpW.force 40 rfl (by exact hp) (OpW.force 41 rfl (by exact hp) (O.call rfl Try.func15 rfl rfl rfl (csame_fn c2 (decC (encC c2).1).1)))) ?_
  refine AO.opG rfl rfl rfl (fun hp => OpW.force 42 rfl (by exact hp) (O.not rfl rfl (by rfl))) ?_
  refine AO.op (O.pickOr rfl rfl rfl rfl (fun h => by exact congrArg (fun b => !b) h)) rfl rfl rfl ?_
  refine AO.op (O.move rfl rfl) rfl rfl rfl ?_
  (refine AO.opG rfl rfl rfl (fun hp => O.loadK rfl rfl (by repeat (first | exact List.Mem.head _ | refine List.Mem.tail _ ?_)) (by (dsimp only [List.set, List.append, List.cons_append, List.nil_append, roB_cells, roI_cells, roO_cells, splice, ofConst, AV.cells, List.map, List.map_cons, List.map_nil, List.take, List.drop, Nat.zero_add, Nat.add_zero, Nat.reduceAdd, Nat.reduceMul, Nat.zero_mul, Value.cells, List.toList_toArray, zerosA, List.replicate, List.flatten, List.append_nil]; done)) (by rfl)) ?_)
  refine AO.opG rfl rfl rfl (fun hp => OpW.force 46 rfl (by exact hp) (O.call rfl Try.func21 rfl rfl rfl (csize_fn c2))) ?_
  refine AO.opG rfl rfl rfl (fun hp => O.move rfl rfl) ?_
  refine AO.opG rfl rfl rfl (fun hp => OpW.force 48 rfl (by exact hp) (O.lenR rfl rfl)) ?_
  refine AO.opG rfl rfl rfl (fun hp => OpW.force 47 rfl (by exact hp) (OpW.force 49 rfl (by exact hp) (O.neq rfl rfl rfl (by exact bne_eq_false_iff_eq.2 (by omega))))) ?_
  refine AO.op (O.pickOr rfl rfl rfl rfl (fun h => by exact congrArg (fun b => !b) h)) rfl rfl rfl ?_
  refine AO.op (O.move rfl rfl) rfl rfl rfl ?_
  refine AO.opG rfl rfl rfl (fun hp => O.move rfl rfl) ?_
  refine AO.opG rfl rfl rfl (fun hp => OpW.force 53 rfl (by exact hp) (O.lenR rfl rfl)) ?_
  refine AO.opG rfl rfl rfl (fun hp => OpW.force 54 rfl (by exact hp) (O.gtr rfl rfl rfl (by rfl))) ?_
  refine AO.op (O.pickOr rfl rfl rfl rfl (fun h => by exact congrArg (fun b => !b) h)) rfl rfl rfl ?_
  refine AO.nil ?_
  refine AQ.thenN ?_
  obtain ⟨h8, h9⟩ := dec_enc hc2
  have hlen := encC_len c2
  obtain ⟨b, hb⟩ : ∃ b, encC c2 = (b, 0) := ⟨(encC c2).1, Prod.ext rfl h9⟩
  rw [hb] at h8 hlen
  simp only at h8 hlen
  have hel : b.length ≤ 4294967296 := by omega
  simp only [hb, h8]
  refine AW.split rfl (fun h => ?_) (fun h => ?_)
  · skip
    exfalso
    simp at h
    omega
  · skip
    refine AW.skip ?_
    refine AQ.thenN ?_
    refine AW.seq ?_
    refine AW.seq ?_
    refine AW.region ?_
    refine AO.op (O.move rfl rfl) rfl rfl rfl ?_
    refine AO.op (O.move rfl rfl) rfl rfl rfl ?_
    refine AO.op (O.move rfl rfl) rfl rfl rfl ?_
    refine AO.op (O.move rfl rfl) rfl rfl rfl ?_
    refine AO.opN (O.call rfl Try.func11 rfl rfl rfl (spoilt_fn _ _ _ hel hby)) rfl rfl rfl ?_
    rintro _ _ ⟨⟨x5, hx5, rfl⟩, rfl⟩
    simp only [List.cons_append, List.nil_append]
    refine AO.opB (O.buildSlice rfl rfl rfl (by rfl) (by rfl) (by rfl) (by rfl)) rfl rfl rfl ?_
    intro B6
    refine AO.g ?_
    (refine G.freezeSl 0 62 rfl rfl ⟨Nat.le_refl _, by unfold maxLen; omega⟩ ?_)
    refine G.unfull 62 rfl ?_
    refine AO.u ?_
    dsimp only [List.eraseIdx]
    refine AO.op (O.lenR rfl rfl) rfl rfl rfl ?_
    refine AO.op (O.move rfl rfl) rfl rfl rfl ?_
    refine AO.nil ?_
    refine AQ.thenN ?_
    refine AW.block ?_
    refine AW.g ?_
    refine G.re 62 (roBs [raw, x5]) rfl ?_
    refine AW.u ?_
    refine AW.loopK [(62, _), (63, _)] (fun nn E H => ∃ (k : Nat), (k ≤ 2) ∧ nn = 2 - k ∧ E = [(64, .val (.int .i64 (k : Int)))] ∧ H = []) _ (⟨0, by omega, rfl, rfl, rfl⟩) (by repeat (first | exact envNil | refine envCons rfl ?_)) (by repeat (first | exact envNil | refine envCons rfl ?_)) (by repeat (exact subPnil)) ?_
    rintro nn E H ⟨k, hk, rfl, rfl, rfl⟩
    dsimp only [List.cons_append, List.nil_append]
    refine AW.seq ?_
    refine AW.region ?_
    refine AO.op (O.lss rfl rfl rfl (by rfl)) rfl rfl rfl ?_
    refine AO.nil ?_
    refine AQ.thenN ?_
    refine AW.seq ?_
    refine AW.split rfl (fun h => ?_) (fun h => ?_) <;> (try simp only [decide_eq_true_eq, decide_eq_false_iff_not, beq_iff_eq, beq_eq_false_iff_ne, bne_iff_ne, bne_eq_false_iff_eq, Bool.not_eq_true', Bool.not_eq_false', Bool.not_eq_true, Bool.not_eq_false, ne_eq, Int.not_lt, Int.not_le, Bool.and_eq_true, Bool.or_eq_true, Bool.or_eq_false_iff, Bool.and_eq_false_imp, strOf_toList, Decidable.not_not] at h)
    · skip
      have hk2 : k < [raw, x5].length := by simp; omega
      obtain ⟨r, hr⟩ : ∃ r, r = [raw, x5].getD k [] := ⟨_, rfl⟩
      refine AW.skip ?_
      refine AQ.thenN ?_
      refine AW.seq ?_
      refine AW.block ?_
      refine AW.seq ?_
      refine AW.region ?_
      refine AO.op (O.idxR rfl rfl rfl ⟨(by omega), (by omega)⟩) rfl rfl rfl ?_
      refine AO.op (O.loadR rfl rfl (by exact getBs (by assumption) (by omega))) rfl rfl rfl ?_
      refine AO.op (O.assign rfl rfl) rfl rfl rfl ?_
      refine AO.nil ?_
      refine AQ.thenN ?_
      refine AW.seq ?_
      refine AW.region ?_
      refine AO.op (O.move rfl rfl) rfl rfl rfl ?_
      refine AO.op (O.call rfl Try.func13 rfl rfl rfl (cdecode_fn _)) rfl rfl rfl ?_
      refine AO.op (O.move rfl rfl) rfl rfl rfl ?_
      refine AO.op (O.extract rfl rfl rfl) rfl rfl rfl ?_
      refine AO.op (O.extract rfl rfl rfl) rfl rfl rfl ?_
      refine AO.opB (O.alloc rfl (by (dsimp only [List.set, List.append, List.cons_append, List.nil_append, roB_cells, roI_cells, roO_cells, splice, ofConst, AV.cells, List.map, List.map_cons, List.map_nil, List.take, List.drop, Nat.zero_add, Nat.add_zero, Nat.reduceAdd, Nat.reduceMul, Nat.zero_mul, Value.cells, List.toList_toArray, zerosA, List.replicate, List.flatten, List.append_nil]; done)) (by rfl)) rfl rfl rfl ?_
      intro B7
      (refine AO.store (i := 0) rfl rfl rfl rfl rfl rfl (by rfl) (by rfl) (by rfl) (by (dsimp only [List.set, List.append, List.cons_append, List.nil_append, roB_cells, roI_cells, roO_cells, splice, ofConst, AV.cells, List.map, List.map_cons, List.map_nil, List.take, List.drop, Nat.zero_add, Nat.add_zero, Nat.reduceAdd, Nat.reduceMul, Nat.zero_mul, Value.cells, List.toList_toArray, zerosA, List.replicate, List.flatten, List.append_nil]; done)) (by (dsimp only [List.set, List.append, List.cons_append, List.nil_append, roB_cells, roI_cells, roO_cells, splice, ofConst, AV.cells, List.map, List.map_cons, List.map_nil, List.take, List.drop, Nat.zero_add, Nat.add_zero, Nat.reduceAdd, Nat.reduceMul, Nat.zero_mul, Value.cells, List.toList_toArray, zerosA, List.replicate, List.flatten, List.append_nil]; done)) ?_)
      refine AO.op (O.assign rfl rfl) rfl rfl rfl ?_
      refine AO.nil ?_
      refine AQ.thenN ?_
      refine AW.seq ?_
      refine AW.region ?_
      refine AO.op (O.move rfl rfl) rfl rfl rfl ?_
      refine AO.op (O.eql rfl rfl rfl (by rfl)) rfl rfl rfl ?_
      refine AO.nil ?_
      refine AQ.thenN ?_
      rw [← hr]
      refine AW.split rfl (fun h3 => ?_) (fun h3 => ?_) <;> (try simp only [decide_eq_true_eq, decide_eq_false_iff_not, beq_iff_eq, beq_eq_false_iff_ne, bne_iff_ne, bne_eq_false_iff_eq, Bool.not_eq_true', Bool.not_eq_false', Bool.not_eq_true, Bool.not_eq_false, ne_eq, Int.not_lt, Int.not_le, Bool.and_eq_true, Bool.or_eq_true, Bool.or_eq_false_iff, Bool.and_eq_false_imp, strOf_toList, Decidable.not_not] at h3)
      · skip
        have he := enc_dec (r := r) (y := (decC r).1) (Prod.ext rfl h3)
        refine AW.seq ?_
        refine AW.region ?_
        (refine AO.op (O.loadK rfl rfl (by repeat (exact List.Mem.head _)) (by (dsimp only [List.set, List.append, List.cons_append, List.nil_append, roB_cells, roI_cells, roO_cells, splice, ofConst, AV.cells, List.map, List.map_cons, List.map_nil, List.take, List.drop, Nat.zero_add, Nat.add_zero, Nat.reduceAdd, Nat.reduceMul, Nat.zero_mul, Value.cells, List.toList_toArray, zerosA, List.replicate, List.flatten, List.append_nil]; done)) (by rfl)) rfl rfl rfl ?_)
        refine AO.op (O.call rfl Try.func17 rfl rfl rfl (cencode_fn ⟨_, _, _, _, _, _⟩)) rfl rfl rfl ?_
        refine AO.op (O.move rfl rfl) rfl rfl rfl ?_
        refine AO.op (O.extract rfl rfl rfl) rfl rfl rfl ?_
        refine AO.op (O.extract rfl rfl rfl) rfl rfl rfl ?_
        refine AO.op (O.assign rfl rfl) rfl rfl rfl ?_
        refine AO.op (O.assign rfl rfl) rfl rfl rfl ?_
        refine AO.nil ?_
        refine AQ.thenN ?_
        refine AW.seq ?_
        refine AW.region ?_
        refine AO.op (O.move rfl rfl) rfl rfl rfl ?_
        refine AO.op (O.neq rfl rfl rfl (by rfl)) rfl rfl rfl ?_
        refine AO.op (O.move rfl rfl) rfl rfl rfl ?_
        refine AO.opG rfl rfl rfl (fun hp => O.move rfl rfl) ?_
        refine AO.opG rfl rfl rfl (fun hp => O.move rfl rfl) ?_
        refine AO.opG rfl rfl rfl (fun hp => OpW.force 83 rfl (by exact hp) (OpW.force 84 rfl (by exact hp) (O.call rfl Try.func18 rfl rfl rfl (equal26_fn _ _)))) ?_
        refine AO.opG rfl rfl rfl (fun hp => OpW.force 85 rfl (by exact hp) (O.not rfl rfl (by rfl))) ?_
        refine AO.op (O.pickOr rfl rfl rfl rfl (fun h => by exact congrArg (fun b => !b) h)) rfl rfl rfl ?_
        refine AO.nil ?_
        refine AQ.thenN ?_
        simp only [he]
        refine AW.split rfl (fun h4 => ?_) (fun h4 => ?_)
        · skip
          simp at h4
        · skip
          refine AW.skip ?_
          refine AQ.blockN ?_
          refine AQ.thenN ?_
          refine AW.region ?_
          refine AO.op (O.add rfl rfl rfl (by exact wI64 (by omega))) rfl rfl rfl ?_
          refine AO.op (O.move rfl rfl) rfl rfl rfl ?_
          refine AO.nil ?_
          refine AQ.loopKN _ _ _ (by omega) (⟨k + 1, by omega, rfl, rfl, rfl⟩) (by repeat (first | exact envNil | refine envCons rfl ?_)) (by repeat (first | exact envNil | refine envCons rfl ?_)) (by repeat (exact subPnil))
      · skip
        refine AW.skip ?_
        refine AQ.blockN ?_
        refine AQ.thenN ?_
        refine AW.region ?_
        refine AO.op (O.add rfl rfl rfl (by exact wI64 (by omega))) rfl rfl rfl ?_
        refine AO.op (O.move rfl rfl) rfl rfl rfl ?_
        refine AO.nil ?_
        refine AQ.loopKN _ _ _ (by omega) (⟨k + 1, by omega, rfl, rfl, rfl⟩) (by repeat (first | exact envNil | refine envCons rfl ?_)) (by repeat (first | exact envNil | refine envCons rfl ?_)) (by repeat (exact subPnil))
    · skip
      refine AW.exit ?_
      refine AQ.thenX ?_
      refine AQ.loopX ?_
      refine AQ.blockX rfl ?_
      refine AQ.thenN ?_
      refine AW.seq ?_
      refine AW.region ?_
      refine AO.op (O.assign rfl rfl) rfl rfl rfl ?_
      refine AO.nil ?_
      refine AQ.thenN ?_
      refine AW.ret ?_
      refine AQ.ret1 rfl rfl ⟨_, List.nil_sublist _, .nil⟩ (⟨rfl, rfl⟩)
end Go.Proofs.Ytbkclbbhdeohfaa.By
