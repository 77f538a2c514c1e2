/-
  Layer 15: responses.
-/
import Derived.Test.YtiddmpmpjdnmeaaCoh
import Derived.Test.YtiddmpmpjdnmeaaSv
namespace Go.Proofs.Ytiddmpmpjdnmeaa.By
open Go.RowKit L A
set_option linter.unusedVariables false
set_option linter.unusedSimpArgs false
attribute [local irreducible] AW AQ AO
set_option maxHeartbeats 4000000 in
theorem reply_fn (m : Msg) (code : Int) (os : List Opt) (pay : List UInt8) (hsm : SmM ⟨1, code, 0, m.tok, os, pay⟩) :
    Sp Try.prog 29 [aggM m, .val (.int .i64 code), roO os, roB pay] [] (Is (resM (replyR m code os pay))) := by
  have hat := fun k => SmM.at hsm (k := k)
  obtain ⟨g1, g2, g3, -⟩ := hsm
  simp only at g1 g2 g3 hat
  refine Sp.enter Try.func29 rfl _ Try.ntmps29 rfl (fun w0 R0 => ?_)
  refine AW.seq ?_
  refine AW.region ?_
  refine AO.opB (O.box rfl rfl rfl rfl rfl) rfl rfl rfl ?_
  intro B1
  refine AO.opB (O.alloc rfl (by (dsimp only [List.set, List.append, List.cons_append, List.nil_append, roB_cells, roI_cells, roO_cells, splice, ofConst, AV.cells, List.map, List.map_cons, List.map_nil, List.take, List.drop, Nat.zero_add, Nat.add_zero, Nat.reduceAdd, Nat.reduceMul, Nat.zero_mul, Value.cells, List.toList_toArray, zerosA, List.replicate, List.flatten, List.append_nil]; done)) (by rfl)) rfl rfl rfl ?_
  intro B2
  refine AO.op (O.assign rfl rfl) rfl rfl rfl ?_
  refine AO.nil ?_
  refine AQ.thenN ?_
  refine AW.seq ?_
  refine AW.seq ?_
  refine AW.region ?_
  (refine AO.op (O.loadK rfl rfl (by repeat (first | exact List.Mem.head _ | refine List.Mem.tail _ ?_)) (by (dsimp only [List.set, List.append, List.cons_append, List.nil_append, roB_cells, roI_cells, roO_cells, splice, ofConst, AV.cells, List.map, List.map_cons, List.map_nil, List.take, List.drop, Nat.zero_add, Nat.add_zero, Nat.reduceAdd, Nat.reduceMul, Nat.zero_mul, Value.cells, List.toList_toArray, zerosA, List.replicate, List.flatten, List.append_nil]; done)) (by rfl)) rfl rfl rfl ?_)
  refine AO.op (O.call rfl Try.func22 rfl rfl rfl (valid_fn m)) rfl rfl rfl ?_
  refine AO.op (O.not rfl rfl (by rfl)) rfl rfl rfl ?_
  refine AO.op (O.move rfl rfl) rfl rfl rfl ?_
  refine AO.opG rfl rfl rfl (fun hp => O.fieldAddr rfl rfl) ?_
  refine AO.opG rfl rfl rfl (fun hp => OpW.force 17 rfl (by exact hp) (O.load rfl rfl (by repeat (first | exact List.Mem.head _ | refine List.Mem.tail _ ?_)) (by rfl))) ?_
  refine AO.opG rfl rfl rfl (fun hp => OpW.force 18 rfl (by exact hp) (O.call rfl Try.func31 rfl rfl rfl (req_fn m.code))) ?_
  refine AO.opG rfl rfl rfl (fun hp => OpW.force 19 rfl (by exact hp) (O.not rfl rfl (by rfl))) ?_
  refine AO.op (O.pickOr rfl rfl rfl rfl (fun h => by exact congrArg (fun b => !b) h)) rfl rfl rfl ?_
  refine AO.nil ?_
  refine AQ.thenN ?_
  refine AW.split rfl (fun h => ?_) (fun h => ?_) <;> (try simp only [decide_eq_true_eq, decide_eq_false_iff_not, beq_iff_eq, beq_eq_false_iff_ne, bne_iff_ne, bne_eq_false_iff_eq, Bool.not_eq_true', Bool.not_eq_false', Bool.not_eq_true, Bool.not_eq_false, ne_eq, Int.not_lt, Int.not_le, Bool.and_eq_true, Bool.or_eq_true, Bool.or_eq_false_iff, Bool.and_eq_false_imp, strOf_toList, Decidable.not_not] at h)
  · skip
    have e : replyR m code os pay = (Msg.none, 1) := by
      unfold replyR
      rw [if_neg]
      rcases h with h | h
      · exact fun h9 => h h9.1
      · simp [h]
    refine AW.seq ?_
    refine AW.region ?_
    refine AO.op (O.build rfl rfl rfl (by rfl)) rfl rfl rfl ?_
    (refine AO.store (i := 0) rfl rfl rfl rfl rfl rfl (by rfl) (by rfl) (by rfl) (by (dsimp only [List.set, List.append, List.cons_append, List.nil_append, roB_cells, roI_cells, roO_cells, splice, ofConst, AV.cells, List.map, List.map_cons, List.map_nil, List.take, List.drop, Nat.zero_add, Nat.add_zero, Nat.reduceAdd, Nat.reduceMul, Nat.zero_mul, Value.cells, List.toList_toArray, zerosA, List.replicate, List.flatten, List.append_nil]; done)) (by (dsimp only [List.set, List.append, List.cons_append, List.nil_append, roB_cells, roI_cells, roO_cells, splice, ofConst, AV.cells, List.map, List.map_cons, List.map_nil, List.take, List.drop, Nat.zero_add, Nat.add_zero, Nat.reduceAdd, Nat.reduceMul, Nat.zero_mul, Value.cells, List.toList_toArray, zerosA, List.replicate, List.flatten, List.append_nil]; done)) ?_)
    refine AO.op (O.assign rfl rfl) rfl rfl rfl ?_
    refine AO.nil ?_
    refine AQ.thenN ?_
    refine AW.ret ?_
    refine AQ.thenR ?_
    refine FnQ.coe (AQ.retCT rfl rfl rfl (by repeat (exact List.Mem.head _)) (by (dsimp only [List.set, List.append, List.cons_append, List.nil_append, roB_cells, roI_cells, roO_cells, splice, ofConst, AV.cells, List.map, List.map_cons, List.map_nil, List.take, List.drop, Nat.zero_add, Nat.add_zero, Nat.reduceAdd, Nat.reduceMul, Nat.zero_mul, Value.cells, List.toList_toArray, zerosA, List.replicate, List.flatten, List.append_nil]; done)) (by rfl) ⟨_, List.nil_sublist _, .nil⟩ ⟨rfl, rfl⟩) (Coe.tup (by repeat (first | exact CoeL.nil | refine CoeL.cons Coe.rfl ?_ | refine CoeL.cons Coe.nil ?_ | refine CoeL.cons (Coe.agg ?_) ?_))) (retM e rfl)
  · skip
    refine AW.skip ?_
    refine AQ.thenN ?_
    refine AW.seq ?_
    refine AW.region ?_
    refine AO.op (O.move rfl rfl) rfl rfl rfl ?_
    refine AO.op (O.fieldAddr rfl rfl) rfl rfl rfl ?_
    refine AO.op (O.load rfl rfl (by repeat (first | exact List.Mem.head _ | refine List.Mem.tail _ ?_)) (by rfl)) rfl rfl rfl ?_
    refine AO.op (O.call rfl Try.func39 rfl rfl rfl (clone_fn _ (by assumption))) rfl rfl rfl ?_
    refine AO.op (O.move rfl rfl) rfl rfl rfl ?_
    refine AO.op (O.call rfl Try.func39 rfl rfl rfl (clone_fn _ (by assumption))) rfl rfl rfl ?_
    refine AO.op (O.build rfl rfl rfl (by rfl)) rfl rfl rfl ?_
    refine AO.opB (O.alloc rfl (by (dsimp only [List.set, List.append, List.cons_append, List.nil_append, roB_cells, roI_cells, roO_cells, splice, ofConst, AV.cells, List.map, List.map_cons, List.map_nil, List.take, List.drop, Nat.zero_add, Nat.add_zero, Nat.reduceAdd, Nat.reduceMul, Nat.zero_mul, Value.cells, List.toList_toArray, zerosA, List.replicate, List.flatten, List.append_nil]; done)) (by rfl)) rfl rfl rfl ?_
    intro B3
    (refine AO.store (i := 0) rfl rfl rfl rfl rfl rfl (by rfl) (by rfl) (by rfl) (by (dsimp only [List.set, List.append, List.cons_append, List.nil_append, roB_cells, roI_cells, roO_cells, splice, ofConst, AV.cells, List.map, List.map_cons, List.map_nil, List.take, List.drop, Nat.zero_add, Nat.add_zero, Nat.reduceAdd, Nat.reduceMul, Nat.zero_mul, Value.cells, List.toList_toArray, zerosA, List.replicate, List.flatten, List.append_nil]; done)) (by (dsimp only [List.set, List.append, List.cons_append, List.nil_append, roB_cells, roI_cells, roO_cells, splice, ofConst, AV.cells, List.map, List.map_cons, List.map_nil, List.take, List.drop, Nat.zero_add, Nat.add_zero, Nat.reduceAdd, Nat.reduceMul, Nat.zero_mul, Value.cells, List.toList_toArray, zerosA, List.replicate, List.flatten, List.append_nil]; done)) ?_)
    refine AO.nil ?_
    refine AQ.thenN ?_
    refine AW.seq ?_
    refine AW.seq ?_
    refine AW.region ?_
    refine AO.op (O.fieldAddr rfl rfl) rfl rfl rfl ?_
    refine AO.op (O.load rfl rfl (by repeat (first | exact List.Mem.head _ | refine List.Mem.tail _ ?_)) (by rfl)) rfl rfl rfl ?_
    refine AO.op (O.eql rfl rfl rfl (by rfl)) rfl rfl rfl ?_
    refine AO.nil ?_
    refine AQ.thenN ?_
    refine AW.joinK (True) [(1, _), (2, _), (8, _), (10, _)] [] [.blk B3 31 6 [.val (.int .i64 (replyM m code os pay).ty), .val (.int .i64 code), .val (.int .i64 (replyM m code os pay).id), roB m.tok, .val (.slice none 0 0), roB pay], .blk B2 31 6 [.val (.int .i64 0), .val (.int .i64 0), .val (.int .i64 0), .val (.slice none 0 0), .val (.slice none 0 0), .val (.slice none 0 0)]] rfl (by repeat (first | exact envNil | refine envCons rfl ?_)) (fun hb => ?_) (fun hb => ?_) (fun hj => ?_) <;> try (try simp only [decide_eq_true_eq, decide_eq_false_iff_not, beq_iff_eq, beq_eq_false_iff_ne, bne_iff_ne, bne_eq_false_iff_eq, Bool.not_eq_true', Bool.not_eq_false', Bool.not_eq_true, Bool.not_eq_false, ne_eq, Int.not_lt, Int.not_le, Bool.and_eq_true, Bool.or_eq_true, Bool.or_eq_false_iff, Bool.and_eq_false_imp, strOf_toList, Decidable.not_not] at hb)
    · skip
      have hz : m.ty = 0 := by simpa using hb
      rw [show (replyM m code os pay).ty = 2 from if_pos hz, show (replyM m code os pay).id = m.id from if_pos hz]
      refine AW.regionM [(0, false), (1, false), (2, false), (3, true), (4, false), (5, true)] (by kernel_rfl) (by kernel_rfl) (by exact (by exact splitBlk 10 0 rfl rfl splitNil)) ?_
      dsimp only [List.eraseIdx]
      refine AM.op rfl (O.fieldAddr rfl rfl) rfl rfl rfl ?_
      refine AM.op rfl (O.load rfl rfl (by repeat (first | exact List.Mem.head _ | refine List.Mem.tail _ ?_)) (by rfl)) rfl rfl rfl ?_
      refine AM.op rfl (O.fieldAddr rfl rfl) rfl rfl rfl ?_
      refine AM.main _ rfl (fun w0 R0 => ?_)
      (refine AO.store (i := 0) rfl rfl rfl rfl rfl rfl (by rfl) (by rfl) (by rfl) (by (dsimp only [List.set, List.append, List.cons_append, List.nil_append, roB_cells, roI_cells, roO_cells, splice, ofConst, AV.cells, List.map, List.map_cons, List.map_nil, List.take, List.drop, Nat.zero_add, Nat.add_zero, Nat.reduceAdd, Nat.reduceMul, Nat.zero_mul, Value.cells, List.toList_toArray, zerosA, List.replicate, List.flatten, List.append_nil]; done)) (by (dsimp only [List.set, List.append, List.cons_append, List.nil_append, roB_cells, roI_cells, roO_cells, splice, ofConst, AV.cells, List.map, List.map_cons, List.map_nil, List.take, List.drop, Nat.zero_add, Nat.add_zero, Nat.reduceAdd, Nat.reduceMul, Nat.zero_mul, Value.cells, List.toList_toArray, zerosA, List.replicate, List.flatten, List.append_nil]; done)) ?_)
      refine AM.okN ?_
      dsimp only [putE]
      refine AM.op rfl (O.fieldAddr rfl rfl) rfl rfl rfl ?_
      refine AM.main _ rfl (fun w0 R0 => ?_)
      (refine AO.store (i := 0) rfl rfl rfl rfl rfl rfl (by rfl) (by rfl) (by rfl) (by (dsimp only [List.set, List.append, List.cons_append, List.nil_append, roB_cells, roI_cells, roO_cells, splice, ofConst, AV.cells, List.map, List.map_cons, List.map_nil, List.take, List.drop, Nat.zero_add, Nat.add_zero, Nat.reduceAdd, Nat.reduceMul, Nat.zero_mul, Value.cells, List.toList_toArray, zerosA, List.replicate, List.flatten, List.append_nil]; done)) (by (dsimp only [List.set, List.append, List.cons_append, List.nil_append, roB_cells, roI_cells, roO_cells, splice, ofConst, AV.cells, List.map, List.map_cons, List.map_nil, List.take, List.drop, Nat.zero_add, Nat.add_zero, Nat.reduceAdd, Nat.reduceMul, Nat.zero_mul, Value.cells, List.toList_toArray, zerosA, List.replicate, List.flatten, List.append_nil]; done)) ?_)
      refine AM.okN ?_
      dsimp only [putE]
      refine AM.nil ?_
      dsimp only [List.cons_append, List.nil_append]
      refine AQ.midK0 (trivial) (by repeat (first | exact envNil | refine envCons rfl ?_)) (by repeat (first | exact subPnil | refine subPcons 0 rfl ?_))
    · skip
      have hz : ¬m.ty = 0 := by simpa using hb
      rw [show (replyM m code os pay).ty = 1 from if_neg hz, show (replyM m code os pay).id = 0 from if_neg hz]
      refine AW.skip ?_
      refine AQ.midK (trivial) (by repeat (first | exact envNil | refine envCons rfl ?_)) (by repeat (exact envNil)) (by repeat (first | exact subPnil | refine subPcons 0 rfl ?_))
    · dsimp only [List.cons_append, List.nil_append]
      refine AQ.thenN ?_
      refine AW.seq ?_
      refine AW.seq ?_
      refine AW.region ?_
      refine AO.op (O.move rfl rfl) rfl rfl rfl ?_
      refine AO.op (O.lenR rfl rfl) rfl rfl rfl ?_
      refine AO.op (O.move rfl rfl) rfl rfl rfl ?_
      refine AO.nil ?_
      refine AQ.thenN ?_
      refine AW.block ?_
      refine AW.g ?_
      refine G.nilRow 43 2 ?_
      refine AW.u ?_
      refine AW.loopK [(1, _), (8, _), (10, _), (37, _), (38, _)] (fun nn E H => ∃ (k : Nat) (V : Value), (k ≤ os.length) ∧ (V.oneCell' = true) ∧ nn = os.length - k ∧ E = [(39, .val (.int .i64 (k : Int)))] ∧ H = [.row V 43 2 k (optsA (os.take k)), .blk B3 31 6 [.val (.int .i64 (replyM m code os pay).ty), .val (.int .i64 code), .val (.int .i64 (replyM m code os pay).id), roB m.tok, .val V, roB pay], .blk B2 31 6 [.val (.int .i64 0), .val (.int .i64 0), .val (.int .i64 0), .val (.slice none 0 0), .val (.slice none 0 0), .val (.slice none 0 0)]]) _ (⟨0, _, by omega, rfl, rfl, rfl, rfl⟩) (by repeat (first | exact envNil | refine envCons rfl ?_)) (by repeat (first | exact envNil | refine envCons rfl ?_)) (by repeat (first | exact subPnil | refine subPcons 0 rfl ?_)) ?_
      rintro nn E H ⟨k, V, h4, hV, rfl, rfl, rfl⟩
      dsimp only [List.cons_append, List.nil_append]
      refine AW.seq ?_
      refine AW.region ?_
      refine AO.op (O.lss rfl rfl rfl (by rfl)) rfl rfl rfl ?_
      refine AO.nil ?_
      refine AQ.thenN ?_
      refine AW.seq ?_
      refine AW.split rfl (fun h5 => ?_) (fun h5 => ?_) <;> (try simp only [decide_eq_true_eq, decide_eq_false_iff_not, beq_iff_eq, beq_eq_false_iff_ne, bne_iff_ne, bne_eq_false_iff_eq, Bool.not_eq_true', Bool.not_eq_false', Bool.not_eq_true, Bool.not_eq_false, ne_eq, Int.not_lt, Int.not_le, Bool.and_eq_true, Bool.or_eq_true, Bool.or_eq_false_iff, Bool.and_eq_false_imp, strOf_toList, Decidable.not_not] at h5)
      · skip
        have hk : k < os.length := by omega
        have hv := hat k hk
        have hsc : optsA (os.take (k + 1)) = optsA (os.take k) ++ [.val (.int .i64 (oat os k).num), roB (oat os k).val] := by rw [take_snoc Opt.none hk, optsA_snoc]
        refine AW.skip ?_
        refine AQ.thenN ?_
        refine AW.seq ?_
        refine AW.block ?_
        refine AW.seq ?_
        refine AW.region ?_
        refine AO.op (O.idxR rfl rfl rfl ⟨(by omega), (by omega)⟩) rfl rfl rfl ?_
        refine AO.op (O.loadRK rfl rfl (by exact getO (by omega) (by omega)) (by rfl)) rfl rfl rfl ?_
        refine AO.opB (O.alloc rfl (by (dsimp only [List.set, List.append, List.cons_append, List.nil_append, roB_cells, roI_cells, roO_cells, splice, ofConst, AV.cells, List.map, List.map_cons, List.map_nil, List.take, List.drop, Nat.zero_add, Nat.add_zero, Nat.reduceAdd, Nat.reduceMul, Nat.zero_mul, Value.cells, List.toList_toArray, zerosA, List.replicate, List.flatten, List.append_nil]; done)) (by rfl)) rfl rfl rfl ?_
        intro B4
        (refine AO.store (i := 0) rfl rfl rfl rfl rfl rfl (by rfl) (by rfl) (by rfl) (by (dsimp only [List.set, List.append, List.cons_append, List.nil_append, roB_cells, roI_cells, roO_cells, splice, ofConst, AV.cells, List.map, List.map_cons, List.map_nil, List.take, List.drop, Nat.zero_add, Nat.add_zero, Nat.reduceAdd, Nat.reduceMul, Nat.zero_mul, Value.cells, List.toList_toArray, zerosA, List.replicate, List.flatten, List.append_nil]; done)) (by (dsimp only [List.set, List.append, List.cons_append, List.nil_append, roB_cells, roI_cells, roO_cells, splice, ofConst, AV.cells, List.map, List.map_cons, List.map_nil, List.take, List.drop, Nat.zero_add, Nat.add_zero, Nat.reduceAdd, Nat.reduceMul, Nat.zero_mul, Value.cells, List.toList_toArray, zerosA, List.replicate, List.flatten, List.append_nil]; done)) ?_)
        refine AO.nil ?_
        refine AQ.thenN ?_
        refine AW.regionD 9 (by kernel_rfl) (by kernel_rfl) ?_
        simp only [List.take_succ_cons, List.take_zero, List.drop_succ_cons, List.drop_zero]
        refine FA.op (O.fieldAddr rfl rfl) rfl rfl rfl rfl ?_
        refine FA.op (O.load rfl rfl (by repeat (first | exact List.Mem.head _ | refine List.Mem.tail _ ?_)) (by rfl)) rfl rfl rfl rfl ?_
        refine FA.op (O.fieldAddr rfl rfl) rfl rfl rfl rfl ?_
        refine FA.op (O.load rfl rfl (by repeat (exact List.Mem.head _)) (by rfl)) rfl rfl rfl rfl ?_
        refine FA.op (O.fieldAddr rfl rfl) rfl rfl rfl rfl ?_
        refine FA.op (O.load rfl rfl (by repeat (exact List.Mem.head _)) (by rfl)) rfl rfl rfl rfl ?_
        refine FA.op (O.call rfl Try.func39 rfl rfl rfl (clone_fn _ (by assumption))) rfl rfl rfl rfl ?_
        refine FA.op (O.build rfl rfl rfl (by rfl)) rfl rfl rfl rfl ?_
        refine FA.op (OpW.frz (O.buildSlice rfl rfl rfl (by rfl) (by rfl) (by rfl) (by rfl)) (by (unfold maxLen; omega))) rfl rfl rfl rfl ?_
        refine FA.nil ?_
        simp only [chosen, List.nil_append, List.cons_append, List.append_nil]
        (refine AO.append' (i := 1) rfl rfl rfl rfl (by rfl) (by rfl) rfl rfl rfl (by exact SrcA.ro TyD.ax (by rfl) (Nat.le_of_ble_eq_true rfl)) (by rfl) (by (unfold maxLen; omega)) (by omega) (by (dsimp only [List.set, List.append, List.cons_append, List.nil_append, roB_cells, roI_cells, roO_cells, splice, ofConst, AV.cells, List.map, List.map_cons, List.map_nil, List.take, List.drop, Nat.zero_add, Nat.add_zero, Nat.reduceAdd, Nat.reduceMul, Nat.zero_mul, Value.cells, List.toList_toArray, zerosA, List.replicate, List.flatten, List.append_nil]; done)) (fun _ => by (dsimp only [List.set]; done)) ?_)
        intro V5 hV5
        refine AO.op (O.fieldAddr rfl rfl) rfl rfl rfl ?_
        (refine AO.store (i := 2) rfl rfl rfl rfl rfl rfl (by (simp [AV.cells, AV.one, *]; done)) (by rfl) (by rfl) (by (dsimp only [List.set, List.append, List.cons_append, List.nil_append, roB_cells, roI_cells, roO_cells, splice, ofConst, AV.cells, List.map, List.map_cons, List.map_nil, List.take, List.drop, Nat.zero_add, Nat.add_zero, Nat.reduceAdd, Nat.reduceMul, Nat.zero_mul, Value.cells, List.toList_toArray, zerosA, List.replicate, List.flatten, List.append_nil]; done)) (by (dsimp only [List.set, List.append, List.cons_append, List.nil_append, roB_cells, roI_cells, roO_cells, splice, ofConst, AV.cells, List.map, List.map_cons, List.map_nil, List.take, List.drop, Nat.zero_add, Nat.add_zero, Nat.reduceAdd, Nat.reduceMul, Nat.zero_mul, Value.cells, List.toList_toArray, zerosA, List.replicate, List.flatten, List.append_nil]; done)) ?_)
        refine AO.nil ?_
        refine AQ.blockN ?_
        refine AQ.thenN ?_
        refine AW.region ?_
        refine AO.op (O.add rfl rfl rfl (by exact wI64 (by omega))) rfl rfl rfl ?_
        refine AO.op (O.move rfl rfl) rfl rfl rfl ?_
        refine AO.nil ?_
        refine AQ.loopKN _ _ _ (by omega) (⟨k + 1, _, by omega, ‹_›, rfl, rfl, by rw [hsc]⟩) (by repeat (first | exact envNil | refine envCons rfl ?_)) (by repeat (first | exact envNil | refine envCons rfl ?_)) (by repeat (first | exact subPnil | refine subPcons 1 rfl ?_))
      · skip
        obtain rfl : k = os.length := by omega
        rw [List.take_length]
        refine AW.g ?_
        refine G.freezeCell 0 0 4 rfl rfl rfl ?_
        refine AW.u ?_
        refine AW.exit ?_
        refine AQ.thenX ?_
        refine AQ.loopX ?_
        refine AQ.blockX rfl ?_
        refine AQ.thenN ?_
        refine AW.seq ?_
        refine AW.seq ?_
        refine AW.region ?_
        refine AO.op (O.move rfl rfl) rfl rfl rfl ?_
        refine AO.op (O.call rfl Try.func33 rfl rfl rfl (resp_fn code)) rfl rfl rfl ?_
        refine AO.op (O.not rfl rfl (by rfl)) rfl rfl rfl ?_
        refine AO.op (O.move rfl rfl) rfl rfl rfl ?_
        (refine AO.opG rfl rfl rfl (fun hp => O.loadK rfl rfl (by repeat (exact List.Mem.head _)) (by (dsimp only [List.set, List.append, List.cons_append, List.nil_append, roB_cells, roI_cells, roO_cells, splice, ofConst, AV.cells, List.map, List.map_cons, List.map_nil, List.take, List.drop, Nat.zero_add, Nat.add_zero, Nat.reduceAdd, Nat.reduceMul, Nat.zero_mul, Value.cells, List.toList_toArray, zerosA, List.replicate, List.flatten, List.append_nil]; done)) (by rfl)) ?_)
        refine AO.opG rfl rfl rfl (fun hp => OpW.force 59 rfl (by exact hp) (O.call rfl Try.func22 rfl rfl rfl (valid_fn (replyM m code os pay)))) ?_
        refine AO.opG rfl rfl rfl (fun hp => OpW.force 60 rfl (by exact hp) (O.not rfl rfl (by rfl))) ?_
        refine AO.op (O.pickOr rfl rfl rfl rfl (fun h => by exact congrArg (fun b => !b) h)) rfl rfl rfl ?_
        refine AO.nil ?_
        refine AQ.thenN ?_
        refine AW.split rfl (fun h2 => ?_) (fun h2 => ?_) <;> (try simp only [decide_eq_true_eq, decide_eq_false_iff_not, beq_iff_eq, beq_eq_false_iff_ne, bne_iff_ne, bne_eq_false_iff_eq, Bool.not_eq_true', Bool.not_eq_false', Bool.not_eq_true, Bool.not_eq_false, ne_eq, Int.not_lt, Int.not_le, Bool.and_eq_true, Bool.or_eq_true, Bool.or_eq_false_iff, Bool.and_eq_false_imp, strOf_toList, Decidable.not_not] at h2)
        · skip
          have e : replyR m code os pay = (Msg.none, 4) := by
            unfold replyR
            rw [if_pos h, if_neg]
            rcases h2 with h2 | h2
            · simp [h2]
            · exact fun h9 => h2 h9.2
          refine AW.seq ?_
          refine AW.region ?_
          refine AO.op (O.build rfl rfl rfl (by rfl)) rfl rfl rfl ?_
          (refine AO.store (i := 1) rfl rfl rfl rfl rfl rfl (by rfl) (by rfl) (by rfl) (by (dsimp only [List.set, List.append, List.cons_append, List.nil_append, roB_cells, roI_cells, roO_cells, splice, ofConst, AV.cells, List.map, List.map_cons, List.map_nil, List.take, List.drop, Nat.zero_add, Nat.add_zero, Nat.reduceAdd, Nat.reduceMul, Nat.zero_mul, Value.cells, List.toList_toArray, zerosA, List.replicate, List.flatten, List.append_nil]; done)) (by (dsimp only [List.set, List.append, List.cons_append, List.nil_append, roB_cells, roI_cells, roO_cells, splice, ofConst, AV.cells, List.map, List.map_cons, List.map_nil, List.take, List.drop, Nat.zero_add, Nat.add_zero, Nat.reduceAdd, Nat.reduceMul, Nat.zero_mul, Value.cells, List.toList_toArray, zerosA, List.replicate, List.flatten, List.append_nil]; done)) ?_)
          refine AO.op (O.assign rfl rfl) rfl rfl rfl ?_
          refine AO.nil ?_
          refine AQ.thenN ?_
          refine AW.ret ?_
          refine AQ.thenR ?_
          refine FnQ.coe (AQ.retCT rfl rfl rfl (by repeat (first | exact List.Mem.head _ | refine List.Mem.tail _ ?_)) (by (dsimp only [List.set, List.append, List.cons_append, List.nil_append, roB_cells, roI_cells, roO_cells, splice, ofConst, AV.cells, List.map, List.map_cons, List.map_nil, List.take, List.drop, Nat.zero_add, Nat.add_zero, Nat.reduceAdd, Nat.reduceMul, Nat.zero_mul, Value.cells, List.toList_toArray, zerosA, List.replicate, List.flatten, List.append_nil]; done)) (by rfl) ⟨_, List.nil_sublist _, .nil⟩ ⟨rfl, rfl⟩) (Coe.tup (by repeat (first | exact CoeL.nil | refine CoeL.cons Coe.rfl ?_ | refine CoeL.cons Coe.nil ?_ | refine CoeL.cons (Coe.agg ?_) ?_))) (retM e rfl)
        · skip
          have e : replyR m code os pay = (replyM m code os pay, 0) := by
            unfold replyR
            rw [if_pos h, if_pos h2]
          refine AW.skip ?_
          refine AQ.thenN ?_
          refine AW.seq ?_
          refine AW.region ?_
          (refine AO.op (O.loadK rfl rfl (by repeat (exact List.Mem.head _)) (by (dsimp only [List.set, List.append, List.cons_append, List.nil_append, roB_cells, roI_cells, roO_cells, splice, ofConst, AV.cells, List.map, List.map_cons, List.map_nil, List.take, List.drop, Nat.zero_add, Nat.add_zero, Nat.reduceAdd, Nat.reduceMul, Nat.zero_mul, Value.cells, List.toList_toArray, zerosA, List.replicate, List.flatten, List.append_nil]; done)) (by rfl)) rfl rfl rfl ?_)
          (refine AO.store (i := 1) rfl rfl rfl rfl rfl rfl (by rfl) (by rfl) (by rfl) (by (dsimp only [List.set, List.append, List.cons_append, List.nil_append, roB_cells, roI_cells, roO_cells, splice, ofConst, AV.cells, List.map, List.map_cons, List.map_nil, List.take, List.drop, Nat.zero_add, Nat.add_zero, Nat.reduceAdd, Nat.reduceMul, Nat.zero_mul, Value.cells, List.toList_toArray, zerosA, List.replicate, List.flatten, List.append_nil]; done)) (by (dsimp only [List.set, List.append, List.cons_append, List.nil_append, roB_cells, roI_cells, roO_cells, splice, ofConst, AV.cells, List.map, List.map_cons, List.map_nil, List.take, List.drop, Nat.zero_add, Nat.add_zero, Nat.reduceAdd, Nat.reduceMul, Nat.zero_mul, Value.cells, List.toList_toArray, zerosA, List.replicate, List.flatten, List.append_nil]; done)) ?_)
          refine AO.op (O.assign rfl rfl) rfl rfl rfl ?_
          refine AO.nil ?_
          refine AQ.thenN ?_
          refine AW.ret ?_
          refine FnQ.coe (AQ.retCT rfl rfl rfl (by repeat (first | exact List.Mem.head _ | refine List.Mem.tail _ ?_)) (by (dsimp only [List.set, List.append, List.cons_append, List.nil_append, roB_cells, roI_cells, roO_cells, splice, ofConst, AV.cells, List.map, List.map_cons, List.map_nil, List.take, List.drop, Nat.zero_add, Nat.add_zero, Nat.reduceAdd, Nat.reduceMul, Nat.zero_mul, Value.cells, List.toList_toArray, zerosA, List.replicate, List.flatten, List.append_nil]; done)) (by rfl) ⟨_, List.nil_sublist _, .nil⟩ ⟨rfl, rfl⟩) (Coe.tup (by repeat (first | exact CoeL.nil | refine CoeL.cons Coe.rfl ?_))) (retM e rfl)
end Go.Proofs.Ytiddmpmpjdnmeaa.By
