/-
  Layer 15: CoapDecodes, walked.
-/
import Derived.Test.YtiddmpmpjdnmeaaCpb
namespace Go.Proofs.Ytiddmpmpjdnmeaa.By
open Go.RowKit L A Dk
set_option linter.unusedVariables false
set_option linter.unusedSimpArgs false
attribute [local irreducible] AW AQ AO
set_option maxHeartbeats 4000000 in
theorem decodes_fn (b : List UInt8) (l : List Int) (at' by' : Int) (hl : l.length ≤ maxLen) (hby : -9223372036854775808 ≤ by' ∧ by' ≤ 9223372036854775807) : Sp Try.prog 3 [roB b, roI l, .val (.int .i64 at'), .val (.int .i64 by')] [] (Is (.val (.bool true))) := by
  have q1 := Int.emod_nonneg by' (show (2 : Int) ≠ 0 by decide)
  have q2 := Int.emod_lt_of_pos by' (show (0 : Int) < 2 by decide)
  obtain ⟨p, hpk⟩ : ∃ p : Nat, 4096 + by' % 2 = (p : Int) := ⟨(4096 + by' % 2).toNat, by omega⟩
  refine Sp.enter Try.func3 rfl _ Try.ntmps3 rfl (fun w0 R0 => ?_)
  refine AW.seq ?_
  refine AW.region ?_
  refine AO.op (O.assign rfl rfl) rfl rfl rfl ?_
  refine AO.nil ?_
  refine AQ.thenN ?_
  refine AW.seq ?_
  refine AW.seq ?_
  refine AW.region ?_
  refine AO.op (O.move rfl rfl) rfl rfl rfl ?_
  refine AO.op (O.call rfl Try.func9 rfl rfl rfl (short_fn _)) rfl rfl rfl ?_
  refine AO.op (O.not rfl rfl (by rfl)) rfl rfl rfl ?_
  refine AO.nil ?_
  refine AQ.thenN ?_
  refine AW.split rfl (fun h => ?_) (fun h => ?_) <;> (try simp only [decide_eq_true_eq, decide_eq_false_iff_not, beq_iff_eq, beq_eq_false_iff_ne, bne_iff_ne, bne_eq_false_iff_eq, Bool.not_eq_true', Bool.not_eq_false', Bool.not_eq_true, Bool.not_eq_false, ne_eq, Int.not_lt, Int.not_le, Bool.and_eq_true, Bool.or_eq_true, Bool.or_eq_false_iff, Bool.and_eq_false_imp, strOf_toList, Decidable.not_not] at h)
  · skip
    refine AW.seq ?_
    refine AW.region ?_
    refine AO.op (O.call rfl Try.func10 rfl rfl rfl (awake_fn)) rfl rfl rfl ?_
    refine AO.op (O.assign rfl rfl) rfl rfl rfl ?_
    refine AO.nil ?_
    refine AQ.thenN ?_
    refine AW.ret ?_
    refine AQ.thenR ?_
    refine AQ.ret1 rfl rfl ⟨_, List.nil_sublist _, .nil⟩ (⟨rfl, rfl⟩)
  · skip
    refine AW.skip ?_
    refine AQ.thenN ?_
    refine AW.seq ?_
    refine AW.region ?_
    refine AO.op (O.move rfl rfl) rfl rfl rfl ?_
    refine AO.opB (O.call rfl Try.func11 rfl rfl rfl (new_fn _)) rfl rfl rfl ?_
    intro B1
    refine AO.op (O.assign rfl rfl) rfl rfl rfl ?_
    refine AO.nil ?_
    refine AQ.thenN ?_
    refine AW.seq ?_
    refine AW.region ?_
    refine AO.op (O.move rfl rfl) rfl rfl rfl ?_
    refine AO.op (O.move rfl rfl) rfl rfl rfl ?_
    refine AO.callMG 0 rfl rfl Try.func14 rfl rfl rfl rfl rfl rfl (code_any _ l _ hl (by exact Nat.zero_le _)) ?_
    rintro _ _ ⟨⟨c2, hc2, rfl⟩, kd2, hkd2, rfl⟩
    dsimp only [List.cons_append, List.nil_append, List.eraseIdx]
    refine AO.callMG 0 rfl rfl Try.func13 rfl rfl rfl rfl rfl rfl (message_any _ l _ _ (by assumption) hl (by assumption)) ?_
    rintro _ _ ⟨⟨m3, hm3, rfl⟩, kd3, hkd3, rfl⟩
    dsimp only [List.cons_append, List.nil_append, List.eraseIdx]
    refine AO.op (O.call rfl Try.func12 rfl rfl rfl (raw_fn m3 hm3.1.1)) rfl rfl rfl ?_
    refine AO.op (O.assign rfl rfl) rfl rfl rfl ?_
    refine AO.nil ?_
    refine AQ.thenN ?_
    refine AW.seq ?_
    refine AW.seq ?_
    refine AW.region ?_
    refine AO.op (O.move rfl rfl) rfl rfl rfl ?_
    refine AO.op (O.move rfl rfl) rfl rfl rfl ?_
    refine AO.op (O.move rfl rfl) rfl rfl rfl ?_
    refine AO.op (O.move rfl rfl) rfl rfl rfl ?_
    refine AO.op (O.move rfl rfl) rfl rfl rfl ?_
    (refine AO.opN (O.call rfl Try.func15 rfl rfl rfl (spoilt_fn _ _ _ (by have := hm3.1.2; omega) hby)) rfl rfl rfl ?_)
    rintro _ _ ⟨⟨x4, hx4, rfl⟩, rfl⟩
    simp only [List.cons_append, List.nil_append]
    refine AO.opB (O.buildSlice rfl rfl rfl (by rfl) (by rfl) (by rfl) (by rfl)) rfl rfl rfl ?_
    intro B5
    refine AO.g ?_
    refine G.closeRow (b := B5) (n := 4) (cap := 4) 0 rfl rfl rfl (Nat.le_refl _) (by (unfold maxLen; omega)) ?_
    refine AO.u ?_
    dsimp only [List.set]
    refine AO.op (O.move rfl rfl) rfl rfl rfl ?_
    (refine AO.append' (i := 0) rfl rfl rfl rfl (by rfl) (by rfl) rfl rfl rfl (by exact SrcA.ro TyD.ax (by (simp; done)) (Nat.le_of_ble_eq_true rfl)) (by (simp [AV.cells, AV.one, *]; done)) (by (unfold maxLen; omega)) (by omega) (by (dsimp only [List.set, List.append, List.cons_append, List.nil_append, roB_cells, roI_cells, roO_cells, splice, ofConst, AV.cells, List.map, List.map_cons, List.map_nil, List.take, List.drop, Nat.zero_add, Nat.add_zero, Nat.reduceAdd, Nat.reduceMul, Nat.zero_mul, Value.cells, List.toList_toArray, zerosA, List.replicate, List.flatten, List.append_nil]; done)) (fun _ => by (dsimp only [List.set]; done)) ?_)
    intro V6 hV6
    refine AO.opB (O.buildSlice rfl rfl rfl (by rfl) (by rfl) (by rfl) (by rfl)) rfl rfl rfl ?_
    intro B7
    refine AO.g ?_
    (refine G.freezeSl 0 37 rfl rfl ⟨Nat.le_refl _, by unfold maxLen; omega⟩ ?_)
    refine G.unfull 37 rfl ?_
    refine AO.u ?_
    dsimp only [List.eraseIdx]
    (refine AO.append' (i := 0) rfl rfl rfl rfl (by rfl) (by rfl) rfl rfl rfl (by exact SrcA.ro TyD.ax (by rfl) (Nat.le_of_ble_eq_true rfl)) (by rfl) (by (unfold maxLen; omega)) (by omega) (by (dsimp only [List.set, List.append, List.cons_append, List.nil_append, roB_cells, roI_cells, roO_cells, splice, ofConst, AV.cells, List.map, List.map_cons, List.map_nil, List.take, List.drop, Nat.zero_add, Nat.add_zero, Nat.reduceAdd, Nat.reduceMul, Nat.zero_mul, Value.cells, List.toList_toArray, zerosA, List.replicate, List.flatten, List.append_nil]; done)) (fun _ => by (dsimp only [List.set]; done)) ?_)
    intro V8 hV8
    refine AO.g ?_
    refine G.freezeRow 0 rfl [38] (by repeat (first | exact frNil | refine frCons rfl ?_)) ?_
    refine AO.u ?_
    dsimp only [List.map, List.eraseIdx, List.cons_append, List.nil_append]
    refine AO.opB (O.buildSlice rfl rfl rfl (by rfl) (by rfl) (by rfl) (by rfl)) rfl rfl rfl ?_
    intro B9
    refine AO.g ?_
    refine G.closeRow (b := B9) (n := 2) (cap := 2) 0 rfl rfl rfl (Nat.le_refl _) (by (unfold maxLen; omega)) ?_
    refine AO.u ?_
    dsimp only [List.set]
    refine AO.op (O.move rfl rfl) rfl rfl rfl ?_
    (refine AO.append' (i := 0) rfl rfl rfl rfl (by rfl) (by rfl) rfl rfl rfl (by exact SrcA.ro TyD.ax (by (simp; done)) (Nat.le_of_ble_eq_true rfl)) (by (simp [AV.cells, AV.one, *]; done)) (by (unfold maxLen; omega)) (by omega) (by (dsimp only [List.set, List.append, List.cons_append, List.nil_append, roB_cells, roI_cells, roO_cells, splice, ofConst, AV.cells, List.map, List.map_cons, List.map_nil, List.take, List.drop, Nat.zero_add, Nat.add_zero, Nat.reduceAdd, Nat.reduceMul, Nat.zero_mul, Value.cells, List.toList_toArray, zerosA, List.replicate, List.flatten, List.append_nil]; done)) (fun _ => by (dsimp only [List.set]; done)) ?_)
    intro V10 hV10
    refine AO.g ?_
    refine G.freezeRow 0 rfl [41] (by repeat (first | exact frNil | refine frCons rfl ?_)) ?_
    refine AO.u ?_
    dsimp only [List.map, List.eraseIdx, List.cons_append, List.nil_append]
    refine AO.op (O.move rfl rfl) rfl rfl rfl ?_
    refine AO.op (O.call rfl Try.func16 rfl rfl rfl (Dk.mod_fn _ _ (by omega) (by omega))) rfl rfl rfl ?_
    refine AO.op (O.add rfl rfl rfl (by exact wI64 (by omega))) rfl rfl rfl ?_
    refine AO.op (O.makeB rfl rfl rfl (by assumption) (by assumption) (by omega) (by (unfold maxLen; omega)) (by rfl)) rfl rfl rfl ?_
    refine AO.opB (O.buildSlice rfl rfl rfl (by rfl) (by rfl) (by rfl) (by rfl)) rfl rfl rfl ?_
    intro B11
    refine AO.g ?_
    (refine G.freezeSl 0 46 rfl rfl ⟨Nat.le_refl _, by unfold maxLen; omega⟩ ?_)
    refine G.unfull 46 rfl ?_
    refine AO.u ?_
    dsimp only [List.eraseIdx]
    refine AO.op (O.lenR rfl rfl) rfl rfl rfl ?_
    refine AO.op (O.move rfl rfl) rfl rfl rfl ?_
    refine AO.nil ?_
    refine AQ.thenN ?_
    refine AW.block ?_
    have hxl := hm3.1.2
    have e38 : AV.ro false (4 + b.length + 1) ([.val (.int .u8 64), .val (.int .u8 1), .val (.int .u8 0), .val (.int .u8 0)] ++ bytesA b ++ [.val (.int .u8 255)]) = roB ([64, 1, 0, 0] ++ b ++ [255]) := roB_of (by simp; omega) (by simp [bytesA])
    have e41 : AV.ro false (2 + b.length) ([.val (.int .u8 68), .val (.int .u8 69)] ++ bytesA b) = roB ([68, 69] ++ b) := roB_of (by simp; omega) (by simp [bytesA])
    refine AW.g ?_
    refine G.re 46 (roBs [b, raw m3, x4, [64, 1, 0, 0] ++ b ++ [255], [68, 69] ++ b, List.replicate p 0]) (by show _ = some (AV.ro false 6 [roB b, roB (raw m3), roB x4, roB ([64, 1, 0, 0] ++ b ++ [255]), roB ([68, 69] ++ b), roB (List.replicate p 0)]); rw [← e38, ← e41]; rfl) ?_
    refine AW.u ?_
    refine AW.loopK [(46, _), (47, _)] (fun nn E H => ∃ (k : Nat), (k ≤ 6) ∧ nn = 6 - k ∧ E = [(48, .val (.int .i64 (k : Int)))] ∧ H = []) _ (⟨0, by omega, rfl, rfl, rfl⟩) (by repeat (first | exact envNil | refine envCons rfl ?_)) (by repeat (first | exact envNil | refine envCons rfl ?_)) (by repeat (exact subPnil)) ?_
    rintro nn E H ⟨k, hk, rfl, rfl, rfl⟩
    dsimp only [List.cons_append, List.nil_append]
    refine AW.seq ?_
    refine AW.region ?_
    refine AO.op (O.lss rfl rfl rfl (by rfl)) rfl rfl rfl ?_
    refine AO.nil ?_
    refine AQ.thenN ?_
    refine AW.seq ?_
    refine AW.split rfl (fun h2 => ?_) (fun h2 => ?_) <;> (try simp only [decide_eq_true_eq, decide_eq_false_iff_not, beq_iff_eq, beq_eq_false_iff_ne, bne_iff_ne, bne_eq_false_iff_eq, Bool.not_eq_true', Bool.not_eq_false', Bool.not_eq_true, Bool.not_eq_false, ne_eq, Int.not_lt, Int.not_le, Bool.and_eq_true, Bool.or_eq_true, Bool.or_eq_false_iff, Bool.and_eq_false_imp, strOf_toList, Decidable.not_not] at h2)
    · skip
      have hk2 : k < [b, raw m3, x4, [64, 1, 0, 0] ++ b ++ [255], [68, 69] ++ b, List.replicate p 0].length := by simp; omega
      obtain ⟨r, hr⟩ : ∃ r, r = vat [b, raw m3, x4, [64, 1, 0, 0] ++ b ++ [255], [68, 69] ++ b, List.replicate p 0] k := ⟨_, rfl⟩
      have hrl : r.length ≤ 1000000 := by
        rw [hr]
        rcases (show k = 0 ∨ k = 1 ∨ k = 2 ∨ k = 3 ∨ k = 4 ∨ k = 5 by omega) with rfl | rfl | rfl | rfl | rfl | rfl
        · show b.length ≤ _; omega
        · show (raw m3).length ≤ _; omega
        · show x4.length ≤ _; omega
        · show ([64, 1, 0, 0] ++ b ++ [255]).length ≤ _; simp; omega
        · show ([68, 69] ++ b).length ≤ _; simp; omega
        · show (List.replicate p 0).length ≤ _; simp; omega
      have hra : (bsA [b, raw m3, x4, [64, 1, 0, 0] ++ b ++ [255], [68, 69] ++ b, List.replicate p 0])[(k : Int).toNat * 1]? = some (roB r) := by rw [hr]; exact bsA_at hk2 (by omega)
      refine AW.skip ?_
      refine AQ.thenN ?_
      refine AW.seq ?_
      refine AW.block ?_
      refine AW.seq ?_
      refine AW.region ?_
      refine AO.op (O.idxR rfl rfl rfl ⟨(by omega), (by omega)⟩) rfl rfl rfl ?_
      refine AO.op (O.loadR rfl rfl (by assumption)) rfl rfl rfl ?_
      refine AO.op (O.assign rfl rfl) rfl rfl rfl ?_
      refine AO.nil ?_
      refine AQ.thenN ?_
      refine AW.seq ?_
      refine AW.region ?_
      refine AO.op (O.move rfl rfl) rfl rfl rfl ?_
      refine AO.op (O.call rfl Try.func17 rfl rfl rfl (decode_fn r hrl)) rfl rfl rfl ?_
      refine AO.op (O.move rfl rfl) rfl rfl rfl ?_
      refine AO.op (O.extract rfl rfl rfl) rfl rfl rfl ?_
      refine AO.op (O.extract rfl rfl rfl) rfl rfl rfl ?_
      refine AO.opB (O.alloc rfl (by (dsimp only [List.set, List.append, List.cons_append, List.nil_append, roB_cells, roI_cells, roO_cells, splice, ofConst, AV.cells, List.map, List.map_cons, List.map_nil, List.take, List.drop, Nat.zero_add, Nat.add_zero, Nat.reduceAdd, Nat.reduceMul, Nat.zero_mul, Value.cells, List.toList_toArray, zerosA, List.replicate, List.flatten, List.append_nil]; done)) (by rfl)) rfl rfl rfl ?_
      intro B12
      (refine AO.store (i := 0) rfl rfl rfl rfl rfl rfl (by rfl) (by rfl) (by rfl) (by (dsimp only [List.set, List.append, List.cons_append, List.nil_append, roB_cells, roI_cells, roO_cells, splice, ofConst, AV.cells, List.map, List.map_cons, List.map_nil, List.take, List.drop, Nat.zero_add, Nat.add_zero, Nat.reduceAdd, Nat.reduceMul, Nat.zero_mul, Value.cells, List.toList_toArray, zerosA, List.replicate, List.flatten, List.append_nil]; done)) (by (dsimp only [List.set, List.append, List.cons_append, List.nil_append, roB_cells, roI_cells, roO_cells, splice, ofConst, AV.cells, List.map, List.map_cons, List.map_nil, List.take, List.drop, Nat.zero_add, Nat.add_zero, Nat.reduceAdd, Nat.reduceMul, Nat.zero_mul, Value.cells, List.toList_toArray, zerosA, List.replicate, List.flatten, List.append_nil]; done)) ?_)
      refine AO.op (O.assign rfl rfl) rfl rfl rfl ?_
      refine AO.nil ?_
      refine AQ.thenN ?_
      refine AW.seq ?_
      refine AW.region ?_
      refine AO.op (O.move rfl rfl) rfl rfl rfl ?_
      refine AO.op (O.call rfl Try.func18 rfl rfl rfl (rdecode_fn r hrl)) rfl rfl rfl ?_
      refine AO.op (O.move rfl rfl) rfl rfl rfl ?_
      refine AO.op (O.extract rfl rfl rfl) rfl rfl rfl ?_
      refine AO.op (O.extract rfl rfl rfl) rfl rfl rfl ?_
      refine AO.opB (O.alloc rfl (by (dsimp only [List.set, List.append, List.cons_append, List.nil_append, roB_cells, roI_cells, roO_cells, splice, ofConst, AV.cells, List.map, List.map_cons, List.map_nil, List.take, List.drop, Nat.zero_add, Nat.add_zero, Nat.reduceAdd, Nat.reduceMul, Nat.zero_mul, Value.cells, List.toList_toArray, zerosA, List.replicate, List.flatten, List.append_nil]; done)) (by rfl)) rfl rfl rfl ?_
      intro B13
      (refine AO.store (i := 0) rfl rfl rfl rfl rfl rfl (by rfl) (by rfl) (by rfl) (by (dsimp only [List.set, List.append, List.cons_append, List.nil_append, roB_cells, roI_cells, roO_cells, splice, ofConst, AV.cells, List.map, List.map_cons, List.map_nil, List.take, List.drop, Nat.zero_add, Nat.add_zero, Nat.reduceAdd, Nat.reduceMul, Nat.zero_mul, Value.cells, List.toList_toArray, zerosA, List.replicate, List.flatten, List.append_nil]; done)) (by (dsimp only [List.set, List.append, List.cons_append, List.nil_append, roB_cells, roI_cells, roO_cells, splice, ofConst, AV.cells, List.map, List.map_cons, List.map_nil, List.take, List.drop, Nat.zero_add, Nat.add_zero, Nat.reduceAdd, Nat.reduceMul, Nat.zero_mul, Value.cells, List.toList_toArray, zerosA, List.replicate, List.flatten, List.append_nil]; done)) ?_)
      refine AO.op (O.assign rfl rfl) rfl rfl rfl ?_
      refine AO.nil ?_
      refine AQ.thenN ?_
      refine AW.seq ?_
      refine AW.region ?_
      (refine AO.op (O.loadK rfl rfl (by repeat (first | exact List.Mem.head _ | refine List.Mem.tail _ ?_)) (by (dsimp only [List.set, List.append, List.cons_append, List.nil_append, roB_cells, roI_cells, roO_cells, splice, ofConst, AV.cells, List.map, List.map_cons, List.map_nil, List.take, List.drop, Nat.zero_add, Nat.add_zero, Nat.reduceAdd, Nat.reduceMul, Nat.zero_mul, Value.cells, List.toList_toArray, zerosA, List.replicate, List.flatten, List.append_nil]; done)) (by rfl)) rfl rfl rfl ?_)
      (refine AO.op (O.loadK rfl rfl (by repeat (exact List.Mem.head _)) (by (dsimp only [List.set, List.append, List.cons_append, List.nil_append, roB_cells, roI_cells, roO_cells, splice, ofConst, AV.cells, List.map, List.map_cons, List.map_nil, List.take, List.drop, Nat.zero_add, Nat.add_zero, Nat.reduceAdd, Nat.reduceMul, Nat.zero_mul, Value.cells, List.toList_toArray, zerosA, List.replicate, List.flatten, List.append_nil]; done)) (by rfl)) rfl rfl rfl ?_)
      refine AO.op (O.call rfl Try.func19 rfl rfl rfl (same_fn (decS r).1 (decS r).1 (decS_len r))) rfl rfl rfl ?_
      refine AO.op (O.not rfl rfl (by rfl)) rfl rfl rfl ?_
      refine AO.op (O.move rfl rfl) rfl rfl rfl ?_
      refine AO.opG rfl rfl rfl (fun hp => O.move rfl rfl) ?_
      refine AO.opG rfl rfl rfl (fun hp => O.move rfl rfl) ?_
      refine AO.opG rfl rfl rfl (fun hp => OpW.force 67 rfl (by exact hp) (OpW.force 68 rfl (by exact hp) (O.neq rfl rfl rfl (by exact bne_eq_false_iff_eq.2 (by omega))))) ?_
      refine AO.op (O.pickOr rfl rfl rfl rfl (fun h => by exact congrArg (fun b => !b) h)) rfl rfl rfl ?_
      refine AO.nil ?_
      refine AQ.thenN ?_
      refine AW.split rfl (fun h3 => ?_) (fun h3 => ?_)
      · skip
        simp at h3
      · skip
        refine AW.skip ?_
        refine AQ.blockN ?_
        refine AQ.thenN ?_
        refine AW.region ?_
        refine AO.op (O.add rfl rfl rfl (by exact wI64 (by omega))) rfl rfl rfl ?_
        refine AO.op (O.move rfl rfl) rfl rfl rfl ?_
        refine AO.nil ?_
        refine AQ.loopKN _ _ _ (by omega) (⟨k + 1, by omega, rfl, rfl, rfl⟩) (by repeat (first | exact envNil | refine envCons rfl ?_)) (by repeat (first | exact envNil | refine envCons rfl ?_)) (by repeat (exact subPnil))
    · skip
      refine AW.exit ?_
      refine AQ.thenX ?_
      refine AQ.loopX ?_
      refine AQ.blockX rfl ?_
      refine AQ.thenN ?_
      refine AW.seq ?_
      refine AW.region ?_
      refine AO.op (O.call rfl Try.func10 rfl rfl rfl (awake_fn)) rfl rfl rfl ?_
      refine AO.op (O.assign rfl rfl) rfl rfl rfl ?_
      refine AO.nil ?_
      refine AQ.thenN ?_
      refine AW.ret ?_
      refine AQ.ret1 rfl rfl ⟨_, List.nil_sublist _, .nil⟩ (⟨rfl, rfl⟩)
end Go.Proofs.Ytiddmpmpjdnmeaa.By
