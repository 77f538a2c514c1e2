/-
  Texts laid together (part 5): what the statement's walk and plain law need. No condition.
-/
import Derived.Test.YtbmndjjaaeambaaZ4
/-
  Layer 30: the reference's Split.
-/
namespace Go.Proofs.Ytbmndjjaaeambaa.By
open Go.RowKit L A
set_option linter.unusedVariables false
set_option linter.unusedSimpArgs false
attribute [local irreducible] AW AQ AO
set_option maxHeartbeats 8000000 in
theorem rsplit_fn (m : Msg) : Sp Try.prog 21 [aggM m] [] (Is (res3 (splitR m))) := by
  have bT : ∀ {b : Bool}, b = true → rq m.code = b → True := fun _ _ => trivial
  refine Sp.enter Try.func21 rfl _ Try.ntmps21 rfl (fun w0 R0 => ?_)
  refine AW.seq ?_
  refine AW.region ?_
  refine AO.opB (O.box rfl rfl rfl rfl rfl) rfl rfl rfl ?_
  intro B1
  refine AO.opB (O.alloc rfl (by (dsimp only [List.set, List.append, List.cons_append, List.nil_append, roB_cells, roI_cells, roO_cells, splice, ofConst, AV.cells, List.map, List.map_cons, List.map_nil, List.take, List.drop, Nat.zero_add, Nat.add_zero, Nat.reduceAdd, Nat.reduceMul, Nat.zero_mul, Value.cells, List.toList_toArray, zerosA, List.replicate, List.flatten, List.append_nil]; done)) (by rfl)) rfl rfl rfl ?_
  intro B2
  refine AO.opB (O.alloc rfl (by (dsimp only [List.set, List.append, List.cons_append, List.nil_append, roB_cells, roI_cells, roO_cells, splice, ofConst, AV.cells, List.map, List.map_cons, List.map_nil, List.take, List.drop, Nat.zero_add, Nat.add_zero, Nat.reduceAdd, Nat.reduceMul, Nat.zero_mul, Value.cells, List.toList_toArray, zerosA, List.replicate, List.flatten, List.append_nil]; done)) (by rfl)) rfl rfl rfl ?_
  intro B3
  refine AO.op (O.assign rfl rfl) rfl rfl rfl ?_
  refine AO.nil ?_
  refine AQ.thenN ?_
  refine AW.seq ?_
  refine AW.seq ?_
  refine AW.region ?_
  refine AO.op (O.fieldAddr rfl rfl) rfl rfl rfl ?_
  refine AO.op (O.load rfl rfl (by repeat (first | exact List.Mem.head _ | refine List.Mem.tail _ ?_)) (by rfl)) rfl rfl rfl ?_
  refine AO.op (O.call rfl Try.func45 rfl rfl rfl (rsreq_fn m.code)) rfl rfl rfl ?_
  refine AO.op (O.not rfl rfl (by rfl)) rfl rfl rfl ?_
  refine AO.op (O.move rfl rfl) rfl rfl rfl ?_
  refine AO.opG rfl rfl rfl (fun hp => O.fieldAddr rfl rfl) ?_
  refine AO.opG rfl rfl rfl (fun hp => OpW.force 20 rfl (by exact hp) (O.load rfl rfl (by repeat (first | exact List.Mem.head _ | refine List.Mem.tail _ ?_)) (by rfl))) ?_
  refine AO.opG rfl rfl rfl (fun hp => OpW.force 21 rfl (by exact hp) (O.call rfl Try.func46 rfl rfl rfl (rsresp_fn m.code))) ?_
  refine AO.opG rfl rfl rfl (fun hp => OpW.force 22 rfl (by exact hp) (O.not rfl rfl (by rfl))) ?_
  refine AO.op (O.pickAnd rfl rfl rfl rfl (fun h => by exact h)) rfl rfl rfl ?_
  refine AO.nil ?_
  refine AQ.thenN ?_
  refine AW.split rfl (fun h => ?_) (fun h => ?_) <;> (try simp only [decide_eq_true_eq, decide_eq_false_iff_not, beq_iff_eq, beq_eq_false_iff_ne, bne_iff_ne, bne_eq_false_iff_eq, Bool.not_eq_true', Bool.not_eq_false', Bool.not_eq_true, Bool.not_eq_false, ne_eq, Int.not_lt, Int.not_le, Bool.and_eq_true, Bool.or_eq_true, Bool.or_eq_false_iff, Bool.and_eq_false_imp, strOf_toList, Decidable.not_not] at h)
  · skip
    have e : splitR m = (Msg.none, Msg.none, 1) := if_neg (by
      rintro ⟨hv, hc⟩
      simp [h.1, h.2] at hc)
    refine AW.seq ?_
    refine AW.region ?_
    refine AO.op (O.build rfl rfl rfl (by rfl)) rfl rfl rfl ?_
    refine AO.op (O.build rfl rfl rfl (by rfl)) rfl rfl rfl ?_
    (refine AO.store (i := 1) rfl rfl rfl rfl rfl rfl (by rfl) (by rfl) (by rfl) (by (dsimp only [List.set, List.append, List.cons_append, List.nil_append, roB_cells, roI_cells, roO_cells, splice, ofConst, AV.cells, List.map, List.map_cons, List.map_nil, List.take, List.drop, Nat.zero_add, Nat.add_zero, Nat.reduceAdd, Nat.reduceMul, Nat.zero_mul, Value.cells, List.toList_toArray, zerosA, List.replicate, List.flatten, List.append_nil]; done)) (by (dsimp only [List.set, List.append, List.cons_append, List.nil_append, roB_cells, roI_cells, roO_cells, splice, ofConst, AV.cells, List.map, List.map_cons, List.map_nil, List.take, List.drop, Nat.zero_add, Nat.add_zero, Nat.reduceAdd, Nat.reduceMul, Nat.zero_mul, Value.cells, List.toList_toArray, zerosA, List.replicate, List.flatten, List.append_nil]; done)) ?_)
    (refine AO.store (i := 0) rfl rfl rfl rfl rfl rfl (by rfl) (by rfl) (by rfl) (by (dsimp only [List.set, List.append, List.cons_append, List.nil_append, roB_cells, roI_cells, roO_cells, splice, ofConst, AV.cells, List.map, List.map_cons, List.map_nil, List.take, List.drop, Nat.zero_add, Nat.add_zero, Nat.reduceAdd, Nat.reduceMul, Nat.zero_mul, Value.cells, List.toList_toArray, zerosA, List.replicate, List.flatten, List.append_nil]; done)) (by (dsimp only [List.set, List.append, List.cons_append, List.nil_append, roB_cells, roI_cells, roO_cells, splice, ofConst, AV.cells, List.map, List.map_cons, List.map_nil, List.take, List.drop, Nat.zero_add, Nat.add_zero, Nat.reduceAdd, Nat.reduceMul, Nat.zero_mul, Value.cells, List.toList_toArray, zerosA, List.replicate, List.flatten, List.append_nil]; done)) ?_)
    refine AO.op (O.assign rfl rfl) rfl rfl rfl ?_
    refine AO.nil ?_
    refine AQ.thenN ?_
    refine AW.ret ?_
    refine AQ.thenR ?_
    refine FnQ.coe (AQ.ret3G rfl (by exact ResAt.cell rfl (by repeat (first | exact List.Mem.head _ | refine List.Mem.tail _ ?_)) (by (dsimp only [List.set, List.append, List.cons_append, List.nil_append, roB_cells, roI_cells, roO_cells, splice, ofConst, AV.cells, List.map, List.map_cons, List.map_nil, List.take, List.drop, Nat.zero_add, Nat.add_zero, Nat.reduceAdd, Nat.reduceMul, Nat.zero_mul, Value.cells, List.toList_toArray, zerosA, List.replicate, List.flatten, List.append_nil]; done)) (by rfl)) (by exact ResAt.cell rfl (by repeat (exact List.Mem.head _)) (by (dsimp only [List.set, List.append, List.cons_append, List.nil_append, roB_cells, roI_cells, roO_cells, splice, ofConst, AV.cells, List.map, List.map_cons, List.map_nil, List.take, List.drop, Nat.zero_add, Nat.add_zero, Nat.reduceAdd, Nat.reduceMul, Nat.zero_mul, Value.cells, List.toList_toArray, zerosA, List.replicate, List.flatten, List.append_nil]; done)) (by rfl)) (by exact ResAt.tmp rfl) ⟨_, List.nil_sublist _, .nil⟩ ⟨rfl, rfl⟩) (Coe.tup (by (repeat (first | exact CoeL.nil | refine CoeL.cons Coe.rfl ?_ | refine CoeL.cons Coe.nil ?_ | refine CoeL.cons (Coe.agg ?_) ?_)); done)) (ret3M e)
  · skip
    have hc : rq m.code = true ∨ rs m.code = true := by cases hq : rq m.code <;> simp_all
    refine AW.skip ?_
    refine AQ.thenN ?_
    refine AW.seq ?_
    refine AW.seq ?_
    refine AW.region ?_
    (refine AO.op (O.loadK rfl rfl (by repeat (first | exact List.Mem.head _ | refine List.Mem.tail _ ?_)) (by (dsimp only [List.set, List.append, List.cons_append, List.nil_append, roB_cells, roI_cells, roO_cells, splice, ofConst, AV.cells, List.map, List.map_cons, List.map_nil, List.take, List.drop, Nat.zero_add, Nat.add_zero, Nat.reduceAdd, Nat.reduceMul, Nat.zero_mul, Value.cells, List.toList_toArray, zerosA, List.replicate, List.flatten, List.append_nil]; done)) (by rfl)) rfl rfl rfl ?_)
    refine AO.op (O.call rfl Try.func47 rfl rfl rfl (renc_fn m)) rfl rfl rfl ?_
    refine AO.op (O.move rfl rfl) rfl rfl rfl ?_
    refine AO.op (O.extract rfl rfl rfl) rfl rfl rfl ?_
    refine AO.op (O.extract rfl rfl rfl) rfl rfl rfl ?_
    refine AO.op (O.assign rfl rfl) rfl rfl rfl ?_
    refine AO.op (O.assign rfl rfl) rfl rfl rfl ?_
    refine AO.nil ?_
    refine AQ.thenN ?_
    refine AW.seq ?_
    refine AW.region ?_
    refine AO.op (O.move rfl rfl) rfl rfl rfl ?_
    refine AO.op (O.neq rfl rfl rfl (by rfl)) rfl rfl rfl ?_
    refine AO.nil ?_
    refine AQ.thenN ?_
    refine AW.split rfl (fun hx => ?_) (fun hx => ?_) <;> (try simp only [decide_eq_true_eq, decide_eq_false_iff_not, beq_iff_eq, beq_eq_false_iff_ne, bne_iff_ne, bne_eq_false_iff_eq, Bool.not_eq_true', Bool.not_eq_false', Bool.not_eq_true, Bool.not_eq_false, ne_eq, Int.not_lt, Int.not_le, Bool.and_eq_true, Bool.or_eq_true, Bool.or_eq_false_iff, Bool.and_eq_false_imp, strOf_toList, Decidable.not_not] at hx)
    · skip
      have e : splitR m = (Msg.none, Msg.none, 1) := if_neg (fun hv => by rw [encR_t hv.1] at hx; exact hx rfl)
      refine AW.seq ?_
      refine AW.region ?_
      refine AO.op (O.build rfl rfl rfl (by rfl)) rfl rfl rfl ?_
      refine AO.op (O.build rfl rfl rfl (by rfl)) rfl rfl rfl ?_
      (refine AO.store (i := 1) rfl rfl rfl rfl rfl rfl (by rfl) (by rfl) (by rfl) (by (dsimp only [List.set, List.append, List.cons_append, List.nil_append, roB_cells, roI_cells, roO_cells, splice, ofConst, AV.cells, List.map, List.map_cons, List.map_nil, List.take, List.drop, Nat.zero_add, Nat.add_zero, Nat.reduceAdd, Nat.reduceMul, Nat.zero_mul, Value.cells, List.toList_toArray, zerosA, List.replicate, List.flatten, List.append_nil]; done)) (by (dsimp only [List.set, List.append, List.cons_append, List.nil_append, roB_cells, roI_cells, roO_cells, splice, ofConst, AV.cells, List.map, List.map_cons, List.map_nil, List.take, List.drop, Nat.zero_add, Nat.add_zero, Nat.reduceAdd, Nat.reduceMul, Nat.zero_mul, Value.cells, List.toList_toArray, zerosA, List.replicate, List.flatten, List.append_nil]; done)) ?_)
      (refine AO.store (i := 0) rfl rfl rfl rfl rfl rfl (by rfl) (by rfl) (by rfl) (by (dsimp only [List.set, List.append, List.cons_append, List.nil_append, roB_cells, roI_cells, roO_cells, splice, ofConst, AV.cells, List.map, List.map_cons, List.map_nil, List.take, List.drop, Nat.zero_add, Nat.add_zero, Nat.reduceAdd, Nat.reduceMul, Nat.zero_mul, Value.cells, List.toList_toArray, zerosA, List.replicate, List.flatten, List.append_nil]; done)) (by (dsimp only [List.set, List.append, List.cons_append, List.nil_append, roB_cells, roI_cells, roO_cells, splice, ofConst, AV.cells, List.map, List.map_cons, List.map_nil, List.take, List.drop, Nat.zero_add, Nat.add_zero, Nat.reduceAdd, Nat.reduceMul, Nat.zero_mul, Value.cells, List.toList_toArray, zerosA, List.replicate, List.flatten, List.append_nil]; done)) ?_)
      refine AO.op (O.assign rfl rfl) rfl rfl rfl ?_
      refine AO.nil ?_
      refine AQ.thenN ?_
      refine AW.ret ?_
      refine AQ.thenR ?_
      refine FnQ.coe (AQ.ret3G rfl (by exact ResAt.cell rfl (by repeat (first | exact List.Mem.head _ | refine List.Mem.tail _ ?_)) (by (dsimp only [List.set, List.append, List.cons_append, List.nil_append, roB_cells, roI_cells, roO_cells, splice, ofConst, AV.cells, List.map, List.map_cons, List.map_nil, List.take, List.drop, Nat.zero_add, Nat.add_zero, Nat.reduceAdd, Nat.reduceMul, Nat.zero_mul, Value.cells, List.toList_toArray, zerosA, List.replicate, List.flatten, List.append_nil]; done)) (by rfl)) (by exact ResAt.cell rfl (by repeat (exact List.Mem.head _)) (by (dsimp only [List.set, List.append, List.cons_append, List.nil_append, roB_cells, roI_cells, roO_cells, splice, ofConst, AV.cells, List.map, List.map_cons, List.map_nil, List.take, List.drop, Nat.zero_add, Nat.add_zero, Nat.reduceAdd, Nat.reduceMul, Nat.zero_mul, Value.cells, List.toList_toArray, zerosA, List.replicate, List.flatten, List.append_nil]; done)) (by rfl)) (by exact ResAt.tmp rfl) ⟨_, List.nil_sublist _, .nil⟩ ⟨rfl, rfl⟩) (Coe.tup (by (repeat (first | exact CoeL.nil | refine CoeL.cons Coe.rfl ?_ | refine CoeL.cons Coe.nil ?_ | refine CoeL.cons (Coe.agg ?_) ?_)); done)) (ret3M e)
    · skip
      have hv : ValM m := Classical.byContradiction fun hv => by rw [encR_f hv] at hx; cases hx
      obtain ⟨s1, s2, s3, s4⟩ := hv.sm
      refine AW.skip ?_
      refine AQ.thenN ?_
      refine AW.seq ?_
      refine AW.regionD 7 (by kernel_rfl) (by kernel_rfl) ?_
      simp only [List.take_succ_cons, List.take_zero, List.drop_succ_cons, List.drop_zero]
      refine FA.op (O.fieldAddr rfl rfl) rfl rfl rfl rfl ?_
      refine FA.op (O.load rfl rfl (by repeat (first | exact List.Mem.head _ | refine List.Mem.tail _ ?_)) (by rfl)) rfl rfl rfl rfl ?_
      refine FA.op (O.fieldAddr rfl rfl) rfl rfl rfl rfl ?_
      refine FA.op (O.load rfl rfl (by repeat (first | exact List.Mem.head _ | refine List.Mem.tail _ ?_)) (by rfl)) rfl rfl rfl rfl ?_
      refine FA.op (O.call rfl Try.func48 rfl rfl rfl (copy26_fn _ (by omega))) rfl rfl rfl rfl ?_
      refine FA.op (O.build rfl rfl rfl (by rfl)) rfl rfl rfl rfl ?_
      refine FA.opN (O.alloc rfl (by (dsimp only [List.set, List.append, List.cons_append, List.nil_append, roB_cells, roI_cells, roO_cells, splice, ofConst, AV.cells, List.map, List.map_cons, List.map_nil, List.take, List.drop, Nat.zero_add, Nat.add_zero, Nat.reduceAdd, Nat.reduceMul, Nat.zero_mul, Value.cells, List.toList_toArray, zerosA, List.replicate, List.flatten, List.append_nil]; done)) (by rfl)) rfl rfl rfl rfl ?_
      refine FA.nil ?_
      simp only [chosen, List.nil_append, List.cons_append, List.append_nil]
      rintro _ _ ⟨B4, rfl, rfl⟩
      simp only [List.cons_append, List.nil_append]
      (refine AO.store (i := 0) rfl rfl rfl rfl rfl rfl (by rfl) (by rfl) (by rfl) (by (dsimp only [List.set, List.append, List.cons_append, List.nil_append, roB_cells, roI_cells, roO_cells, splice, ofConst, AV.cells, List.map, List.map_cons, List.map_nil, List.take, List.drop, Nat.zero_add, Nat.add_zero, Nat.reduceAdd, Nat.reduceMul, Nat.zero_mul, Value.cells, List.toList_toArray, zerosA, List.replicate, List.flatten, List.append_nil]; done)) (by (dsimp only [List.set, List.append, List.cons_append, List.nil_append, roB_cells, roI_cells, roO_cells, splice, ofConst, AV.cells, List.map, List.map_cons, List.map_nil, List.take, List.drop, Nat.zero_add, Nat.add_zero, Nat.reduceAdd, Nat.reduceMul, Nat.zero_mul, Value.cells, List.toList_toArray, zerosA, List.replicate, List.flatten, List.append_nil]; done)) ?_)
      refine AO.nil ?_
      refine AQ.thenN ?_
      refine AW.seq ?_
      refine AW.regionD 9 (by kernel_rfl) (by kernel_rfl) ?_
      simp only [List.take_succ_cons, List.take_zero, List.drop_succ_cons, List.drop_zero]
      refine FA.op (O.fieldAddr rfl rfl) rfl rfl rfl rfl ?_
      refine FA.op (O.load rfl rfl (by repeat (first | exact List.Mem.head _ | refine List.Mem.tail _ ?_)) (by rfl)) rfl rfl rfl rfl ?_
      refine FA.op (O.fieldAddr rfl rfl) rfl rfl rfl rfl ?_
      refine FA.op (O.load rfl rfl (by repeat (first | exact List.Mem.head _ | refine List.Mem.tail _ ?_)) (by rfl)) rfl rfl rfl rfl ?_
      refine FA.op (O.fieldAddr rfl rfl) rfl rfl rfl rfl ?_
      refine FA.op (O.load rfl rfl (by repeat (first | exact List.Mem.head _ | refine List.Mem.tail _ ?_)) (by rfl)) rfl rfl rfl rfl ?_
      refine FA.op (O.call rfl Try.func48 rfl rfl rfl (copy26_fn _ (by omega))) rfl rfl rfl rfl ?_
      refine FA.op (O.build rfl rfl rfl (by rfl)) rfl rfl rfl rfl ?_
      refine FA.opN (O.alloc rfl (by (dsimp only [List.set, List.append, List.cons_append, List.nil_append, roB_cells, roI_cells, roO_cells, splice, ofConst, AV.cells, List.map, List.map_cons, List.map_nil, List.take, List.drop, Nat.zero_add, Nat.add_zero, Nat.reduceAdd, Nat.reduceMul, Nat.zero_mul, Value.cells, List.toList_toArray, zerosA, List.replicate, List.flatten, List.append_nil]; done)) (by rfl)) rfl rfl rfl rfl ?_
      refine FA.nil ?_
      simp only [chosen, List.nil_append, List.cons_append, List.append_nil]
      rintro _ _ ⟨B5, rfl, rfl⟩
      simp only [List.cons_append, List.nil_append]
      (refine AO.store (i := 0) rfl rfl rfl rfl rfl rfl (by rfl) (by rfl) (by rfl) (by (dsimp only [List.set, List.append, List.cons_append, List.nil_append, roB_cells, roI_cells, roO_cells, splice, ofConst, AV.cells, List.map, List.map_cons, List.map_nil, List.take, List.drop, Nat.zero_add, Nat.add_zero, Nat.reduceAdd, Nat.reduceMul, Nat.zero_mul, Value.cells, List.toList_toArray, zerosA, List.replicate, List.flatten, List.append_nil]; done)) (by (dsimp only [List.set, List.append, List.cons_append, List.nil_append, roB_cells, roI_cells, roO_cells, splice, ofConst, AV.cells, List.map, List.map_cons, List.map_nil, List.take, List.drop, Nat.zero_add, Nat.add_zero, Nat.reduceAdd, Nat.reduceMul, Nat.zero_mul, Value.cells, List.toList_toArray, zerosA, List.replicate, List.flatten, List.append_nil]; done)) ?_)
      refine AO.nil ?_
      refine AQ.thenN ?_
      refine AW.seq ?_
      refine AW.region ?_
      refine AO.op (O.assign rfl rfl) rfl rfl rfl ?_
      refine AO.op (O.assign rfl rfl) rfl rfl rfl ?_
      refine AO.nil ?_
      refine AQ.thenN ?_
      refine AW.seq ?_
      refine AW.seq ?_
      refine AW.region ?_
      refine AO.op (O.fieldAddr rfl rfl) rfl rfl rfl ?_
      refine AO.op (O.load rfl rfl (by repeat (first | exact List.Mem.head _ | refine List.Mem.tail _ ?_)) (by rfl)) rfl rfl rfl ?_
      refine AO.op (O.lenR rfl rfl) rfl rfl rfl ?_
      refine AO.op (O.move rfl rfl) rfl rfl rfl ?_
      refine AO.nil ?_
      refine AQ.thenN ?_
      refine AW.block ?_
      refine AW.g ?_
      refine G.nilRow 62 2 ?_
      refine AW.u ?_
      refine AW.g ?_
      refine G.nilRow 62 2 ?_
      refine AW.u ?_
      refine AW.loopK [(1, _), (2, _), (3, _), (7, _), (8, _), (51, _), (52, _)] (fun nn E H => ∃ (k : Nat) (V V' : Value), (k ≤ m.opts.length) ∧ (V.oneCell' = true) ∧ (V'.oneCell' = true) ∧ nn = m.opts.length - k ∧ E = [(9, .val (.bool (watchB (m.opts.take k)))), (10, .val (.bool (badB (m.opts.take k)))), (53, .val (.int .i64 (k : Int)))] ∧ H = [.row V 62 2 (inL m.code (m.opts.take k)).length (optsA (inL m.code (m.opts.take k))), .row V' 62 2 (outL (m.opts.take k)).length (optsA (outL (m.opts.take k))), .blk B4 29 6 [.val (.int .i64 0), .val (.int .i64 m.code), .val (.int .i64 0), .val (.slice none 0 0), .val V, roB m.pay], .blk B5 29 6 [.val (.int .i64 m.ty), .val (.int .i64 0), .val (.int .i64 m.id), roB m.tok, .val V', .val (.slice none 0 0)], .blk B3 29 6 [.val (.int .i64 0), .val (.int .i64 0), .val (.int .i64 0), .val (.slice none 0 0), .val (.slice none 0 0), .val (.slice none 0 0)], .blk B2 29 6 [.val (.int .i64 0), .val (.int .i64 0), .val (.int .i64 0), .val (.slice none 0 0), .val (.slice none 0 0), .val (.slice none 0 0)], .blk B1 29 6 [.val (.int .i64 m.ty), .val (.int .i64 m.code), .val (.int .i64 m.id), roB m.tok, roO m.opts, roB m.pay]]) _ (⟨0, _, _, by omega, rfl, rfl, rfl, rfl, rfl⟩) (by repeat (first | exact envNil | refine envCons rfl ?_)) (by repeat (first | exact envNil | refine envCons rfl ?_)) (by repeat (first | exact subPnil | refine subPcons 0 rfl ?_ | refine subPcons 1 rfl ?_)) ?_
      rintro nn E H ⟨k, V, V', hk, hV, hV', rfl, rfl, rfl⟩
      dsimp only [List.cons_append, List.nil_append]
      have hl1 := inL_len m.code (m.opts.take k)
      have hl2 := outL_len (m.opts.take k)
      rw [List.length_take] at hl1 hl2
      refine AW.seq ?_
      refine AW.region ?_
      refine AO.op (O.lss rfl rfl rfl (by rfl)) rfl rfl rfl ?_
      refine AO.nil ?_
      refine AQ.thenN ?_
      refine AW.seq ?_
      refine AW.split rfl (fun h2 => ?_) (fun h2 => ?_) <;> (try simp only [decide_eq_true_eq, decide_eq_false_iff_not, beq_iff_eq, beq_eq_false_iff_ne, bne_iff_ne, bne_eq_false_iff_eq, Bool.not_eq_true', Bool.not_eq_false', Bool.not_eq_true, Bool.not_eq_false, ne_eq, Int.not_lt, Int.not_le, Bool.and_eq_true, Bool.or_eq_true, Bool.or_eq_false_iff, Bool.and_eq_false_imp, strOf_toList, Decidable.not_not] at h2)
      · skip
        have hkk : k < m.opts.length := by omega
        have hv4 : (oat m.opts k).val.length ≤ 4294967296 := by have := s4 k hkk; omega
        have hci := cls_in (oat m.opts k).num
        refine AW.skip ?_
        refine AQ.thenN ?_
        refine AW.seq ?_
        refine AW.block ?_
        refine AW.seq ?_
        refine AW.region ?_
        refine AO.op (O.idxR rfl rfl rfl ⟨(by omega), (by omega)⟩) rfl rfl rfl ?_
        refine AO.op (O.loadRK rfl rfl (by exact getO (by omega) (by omega)) (by rfl)) rfl rfl rfl ?_
        refine AO.opB (O.alloc rfl (by (dsimp only [List.set, List.append, List.cons_append, List.nil_append, roB_cells, roI_cells, roO_cells, splice, ofConst, AV.cells, List.map, List.map_cons, List.map_nil, List.take, List.drop, Nat.zero_add, Nat.add_zero, Nat.reduceAdd, Nat.reduceMul, Nat.zero_mul, Value.cells, List.toList_toArray, zerosA, List.replicate, List.flatten, List.append_nil]; done)) (by rfl)) rfl rfl rfl ?_
        intro B6
        (refine AO.store (i := 0) rfl rfl rfl rfl rfl rfl (by rfl) (by rfl) (by rfl) (by (dsimp only [List.set, List.append, List.cons_append, List.nil_append, roB_cells, roI_cells, roO_cells, splice, ofConst, AV.cells, List.map, List.map_cons, List.map_nil, List.take, List.drop, Nat.zero_add, Nat.add_zero, Nat.reduceAdd, Nat.reduceMul, Nat.zero_mul, Value.cells, List.toList_toArray, zerosA, List.replicate, List.flatten, List.append_nil]; done)) (by (dsimp only [List.set, List.append, List.cons_append, List.nil_append, roB_cells, roI_cells, roO_cells, splice, ofConst, AV.cells, List.map, List.map_cons, List.map_nil, List.take, List.drop, Nat.zero_add, Nat.add_zero, Nat.reduceAdd, Nat.reduceMul, Nat.zero_mul, Value.cells, List.toList_toArray, zerosA, List.replicate, List.flatten, List.append_nil]; done)) ?_)
        refine AO.nil ?_
        refine AQ.thenN ?_
        refine AW.seq ?_
        refine AW.region ?_
        refine AO.op (O.fieldAddr rfl rfl) rfl rfl rfl ?_
        refine AO.op (O.load rfl rfl (by repeat (exact List.Mem.head _)) (by rfl)) rfl rfl rfl ?_
        refine AO.op (O.call rfl Try.func10 rfl rfl rfl (rclass_fn _)) rfl rfl rfl ?_
        refine AO.op (O.assign rfl rfl) rfl rfl rfl ?_
        refine AO.nil ?_
        refine AQ.thenN ?_
        refine AW.seq ?_
        refine AW.region ?_
        refine AO.op (O.move rfl rfl) rfl rfl rfl ?_
        refine AO.op (O.move rfl rfl) rfl rfl rfl ?_
        refine AO.opG rfl rfl rfl (fun hp => O.fieldAddr rfl rfl) ?_
        refine AO.opG rfl rfl rfl (fun hp => OpW.force 62 rfl (by exact hp) (O.load rfl rfl (by repeat (exact List.Mem.head _)) (by rfl))) ?_
        refine AO.opG rfl rfl rfl (fun hp => OpW.force 63 rfl (by exact hp) (O.eql rfl rfl rfl (by rfl))) ?_
        refine AO.op (O.pickOr rfl rfl rfl rfl (fun h => by exact congrArg (fun b => !b) h)) rfl rfl rfl ?_
        refine AO.op (O.move rfl rfl) rfl rfl rfl ?_
        refine AO.opG rfl rfl rfl (fun hp => O.fieldAddr rfl rfl) ?_
        refine AO.opG rfl rfl rfl (fun hp => OpW.force 67 rfl (by exact hp) (O.load rfl rfl (by repeat (exact List.Mem.head _)) (by rfl))) ?_
        refine AO.opG rfl rfl rfl (fun hp => OpW.force 68 rfl (by exact hp) (O.eql rfl rfl rfl (by rfl))) ?_
        refine AO.op (O.pickOr rfl rfl rfl rfl (fun h => by exact congrArg (fun b => !b) h)) rfl rfl rfl ?_
        refine AO.op (O.assign rfl rfl) rfl rfl rfl ?_
        refine AO.nil ?_
        refine AQ.thenN ?_
        refine AW.seq ?_
        refine AW.seq ?_
        refine AW.region ?_
        refine AO.op (O.move rfl rfl) rfl rfl rfl ?_
        refine AO.op (O.neq rfl rfl rfl (by rfl)) rfl rfl rfl ?_
        refine AO.nil ?_
        refine AQ.thenN ?_
        have hb' : badB (m.opts.take (k + 1)) = (badB (m.opts.take k) || decide ((oat m.opts k).num = 9) || decide ((oat m.opts k).num = 35)) := by rw [take_snoc Opt.none hkk, badB_snoc, Bool.or_assoc]; congr 1; exact Bool.decide_or _ _
        have hw' : watchB (m.opts.take (k + 1)) = (watchB (m.opts.take k) || decide ((oat m.opts k).num = 6)) := by rw [take_snoc Opt.none hkk, watchB_snoc]
        have hin := inL_snoc m.code (m.opts.take k) (oat m.opts k)
        have hou := outL_snoc (m.opts.take k) (oat m.opts k)
        rw [← take_snoc Opt.none hkk] at hin hou
        refine AW.joinI [(1, _), (2, _), (3, _), (7, _), (8, _), (9, _), (10, _), (12, _), (13, _), (51, _), (52, _), (53, _)] (fun E H => ∃ (W : Value), (W.oneCell' = true) ∧ E = [] ∧ H = [.blk B6 62 2 [.val (.int .i64 (oat m.opts k).num), roB (oat m.opts k).val], .row W 62 2 (inL m.code (m.opts.take (k + 1))).length (optsA (inL m.code (m.opts.take (k + 1)))), .row V' 62 2 (outL (m.opts.take k)).length (optsA (outL (m.opts.take k))), .blk B4 29 6 [.val (.int .i64 0), .val (.int .i64 m.code), .val (.int .i64 0), .val (.slice none 0 0), .val W, roB m.pay], .blk B5 29 6 [.val (.int .i64 m.ty), .val (.int .i64 0), .val (.int .i64 m.id), roB m.tok, .val V', .val (.slice none 0 0)], .blk B3 29 6 [.val (.int .i64 0), .val (.int .i64 0), .val (.int .i64 0), .val (.slice none 0 0), .val (.slice none 0 0), .val (.slice none 0 0)], .blk B2 29 6 [.val (.int .i64 0), .val (.int .i64 0), .val (.int .i64 0), .val (.slice none 0 0), .val (.slice none 0 0), .val (.slice none 0 0)], .blk B1 29 6 [.val (.int .i64 m.ty), .val (.int .i64 m.code), .val (.int .i64 m.id), roB m.tok, roO m.opts, roB m.pay]]) rfl (by repeat (first | exact envNil | refine envCons rfl ?_)) (fun h71 => ?_) (fun h71 => ?_) ?_ <;> try (try simp only [decide_eq_true_eq, decide_eq_false_iff_not, beq_iff_eq, beq_eq_false_iff_ne, bne_iff_ne, bne_eq_false_iff_eq, Bool.not_eq_true', Bool.not_eq_false', Bool.not_eq_true, Bool.not_eq_false, ne_eq, Int.not_lt, Int.not_le, Bool.and_eq_true, Bool.or_eq_true, Bool.or_eq_false_iff, Bool.and_eq_false_imp, strOf_toList, Decidable.not_not] at h71)
        · skip
          rw [if_pos (by omega)] at hin
          refine AW.seq ?_
          refine AW.region ?_
          refine AO.op (O.fieldAddr rfl rfl) rfl rfl rfl ?_
          refine AO.op (O.load rfl rfl (by repeat (exact List.Mem.head _)) (by rfl)) rfl rfl rfl ?_
          refine AO.op (O.call rfl Try.func48 rfl rfl rfl (copy26_fn _ (by assumption))) rfl rfl rfl ?_
          refine AO.op (O.assign rfl rfl) rfl rfl rfl ?_
          refine AO.nil ?_
          refine AQ.thenN ?_
          refine AW.seq ?_
          refine AW.seq ?_
          refine AW.region ?_
          refine AO.op (O.fieldAddr rfl rfl) rfl rfl rfl ?_
          refine AO.op (O.load rfl rfl (by repeat (exact List.Mem.head _)) (by rfl)) rfl rfl rfl ?_
          refine AO.op (O.eql rfl rfl rfl (by rfl)) rfl rfl rfl ?_
          refine AO.op (O.move rfl rfl) rfl rfl rfl ?_
          refine AO.opG rfl rfl rfl (fun hp => O.fieldAddr rfl rfl) ?_
          refine AO.opG rfl rfl rfl (fun hp => OpW.force 80 rfl (by exact hp) (O.load rfl rfl (by repeat (first | exact List.Mem.head _ | refine List.Mem.tail _ ?_)) (by rfl))) ?_
          refine AO.opG rfl rfl rfl (fun hp => OpW.force 81 rfl (by exact hp) (O.call rfl Try.func46 rfl rfl rfl (rsresp_fn m.code))) ?_
          refine AO.op (O.pickAnd rfl rfl rfl rfl (fun h => by exact h)) rfl rfl rfl ?_
          refine AO.nil ?_
          refine AQ.thenN ?_
          refine AW.split rfl (fun h81 => ?_) (fun h81 => ?_) <;> (try simp only [decide_eq_true_eq, decide_eq_false_iff_not, beq_iff_eq, beq_eq_false_iff_ne, bne_iff_ne, bne_eq_false_iff_eq, Bool.not_eq_true', Bool.not_eq_false', Bool.not_eq_true, Bool.not_eq_false, ne_eq, Int.not_lt, Int.not_le, Bool.and_eq_true, Bool.or_eq_true, Bool.or_eq_false_iff, Bool.and_eq_false_imp, strOf_toList, Decidable.not_not] at h81)
          · skip
            have hi2 : inO m.code (oat m.opts k) = ⟨(oat m.opts k).num, []⟩ := if_pos h81
            rw [hi2] at hin
            refine AW.region ?_
            refine AO.op (O.assign rfl rfl) rfl rfl rfl ?_
            refine AO.nil ?_
            refine AQ.thenN ?_
            refine AW.region ?_
            refine AO.op (O.fieldAddr rfl rfl) rfl rfl rfl ?_
            refine AO.op (O.load rfl rfl (by repeat (first | exact List.Mem.head _ | refine List.Mem.tail _ ?_)) (by rfl)) rfl rfl rfl ?_
            refine AO.op (O.fieldAddr rfl rfl) rfl rfl rfl ?_
            refine AO.op (O.load rfl rfl (by repeat (exact List.Mem.head _)) (by rfl)) rfl rfl rfl ?_
            refine AO.op (O.move rfl rfl) rfl rfl rfl ?_
            refine AO.op (O.build rfl rfl rfl (by rfl)) rfl rfl rfl ?_
            refine AO.opB (O.buildSlice rfl rfl rfl (by rfl) (by rfl) (by rfl) (by rfl)) rfl rfl rfl ?_
            intro B7
            refine AO.g ?_
            (refine G.freezeSl 0 90 rfl rfl ⟨Nat.le_refl _, by unfold maxLen; omega⟩ ?_)
            refine G.unfull 90 rfl ?_
            refine AO.u ?_
            dsimp only [List.eraseIdx]
            (refine AO.append' (i := 1) rfl rfl rfl rfl (by rfl) (by rfl) rfl rfl rfl (by exact SrcA.ro TyD.ax (by rfl) (Nat.le_of_ble_eq_true rfl)) (by rfl) (by (unfold maxLen; omega)) (by omega) (by (dsimp only [List.set, List.append, List.cons_append, List.nil_append, roB_cells, roI_cells, roO_cells, splice, ofConst, AV.cells, List.map, List.map_cons, List.map_nil, List.take, List.drop, Nat.zero_add, Nat.add_zero, Nat.reduceAdd, Nat.reduceMul, Nat.zero_mul, Value.cells, List.toList_toArray, zerosA, List.replicate, List.flatten, List.append_nil]; done)) (fun _ => by (dsimp only [List.set]; done)) ?_)
            intro V8 hV8
            refine AO.op (O.fieldAddr rfl rfl) rfl rfl rfl ?_
            (refine AO.store (i := 3) rfl rfl rfl rfl rfl rfl (by (simp [AV.cells, AV.one, *]; done)) (by rfl) (by rfl) (by (dsimp only [List.set, List.append, List.cons_append, List.nil_append, roB_cells, roI_cells, roO_cells, splice, ofConst, AV.cells, List.map, List.map_cons, List.map_nil, List.take, List.drop, Nat.zero_add, Nat.add_zero, Nat.reduceAdd, Nat.reduceMul, Nat.zero_mul, Value.cells, List.toList_toArray, zerosA, List.replicate, List.flatten, List.append_nil]; done)) (by (dsimp only [List.set, List.append, List.cons_append, List.nil_append, roB_cells, roI_cells, roO_cells, splice, ofConst, AV.cells, List.map, List.map_cons, List.map_nil, List.take, List.drop, Nat.zero_add, Nat.add_zero, Nat.reduceAdd, Nat.reduceMul, Nat.zero_mul, Value.cells, List.toList_toArray, zerosA, List.replicate, List.flatten, List.append_nil]; done)) ?_)
            refine AO.nil ?_
            refine AQ.g ?_
            refine G.coeRow 1 _ (optsA (inL m.code (m.opts.take k)) ++ [.val (.int .i64 (oat m.opts k).num), roB []]) rfl rfl (CoeL.app CoeL.refl (CoeL.cons Coe.rfl (CoeL.cons Coe.nil CoeL.nil))) ?_
            refine AQ.u ?_
            refine AQ.midI _ _ (⟨_, ‹_›, rfl, by rw [hin, optsA_snoc, List.length_append]⟩) (by repeat (first | exact envNil | refine envCons rfl ?_)) (by repeat (exact envNil)) (by repeat (first | exact subPnil | refine subPcons 0 rfl ?_))
          · skip
            have hi2 : inO m.code (oat m.opts k) = oat m.opts k := if_neg (fun hh => by have := h81 hh.1; rw [hh.2] at this; cases this)
            rw [hi2] at hin
            refine AW.skip ?_
            refine AQ.thenN ?_
            refine AW.region ?_
            refine AO.op (O.fieldAddr rfl rfl) rfl rfl rfl ?_
            refine AO.op (O.load rfl rfl (by repeat (first | exact List.Mem.head _ | refine List.Mem.tail _ ?_)) (by rfl)) rfl rfl rfl ?_
            refine AO.op (O.fieldAddr rfl rfl) rfl rfl rfl ?_
            refine AO.op (O.load rfl rfl (by repeat (exact List.Mem.head _)) (by rfl)) rfl rfl rfl ?_
            refine AO.op (O.move rfl rfl) rfl rfl rfl ?_
            refine AO.op (O.build rfl rfl rfl (by rfl)) rfl rfl rfl ?_
            refine AO.opB (O.buildSlice rfl rfl rfl (by rfl) (by rfl) (by rfl) (by rfl)) rfl rfl rfl ?_
            intro B9
            refine AO.g ?_
            (refine G.freezeSl 0 90 rfl rfl ⟨Nat.le_refl _, by unfold maxLen; omega⟩ ?_)
            refine G.unfull 90 rfl ?_
            refine AO.u ?_
            dsimp only [List.eraseIdx]
            (refine AO.append' (i := 1) rfl rfl rfl rfl (by rfl) (by rfl) rfl rfl rfl (by exact SrcA.ro TyD.ax (by rfl) (Nat.le_of_ble_eq_true rfl)) (by rfl) (by (unfold maxLen; omega)) (by omega) (by (dsimp only [List.set, List.append, List.cons_append, List.nil_append, roB_cells, roI_cells, roO_cells, splice, ofConst, AV.cells, List.map, List.map_cons, List.map_nil, List.take, List.drop, Nat.zero_add, Nat.add_zero, Nat.reduceAdd, Nat.reduceMul, Nat.zero_mul, Value.cells, List.toList_toArray, zerosA, List.replicate, List.flatten, List.append_nil]; done)) (fun _ => by (dsimp only [List.set]; done)) ?_)
            intro V10 hV10
            refine AO.op (O.fieldAddr rfl rfl) rfl rfl rfl ?_
            (refine AO.store (i := 3) rfl rfl rfl rfl rfl rfl (by (simp [AV.cells, AV.one, *]; done)) (by rfl) (by rfl) (by (dsimp only [List.set, List.append, List.cons_append, List.nil_append, roB_cells, roI_cells, roO_cells, splice, ofConst, AV.cells, List.map, List.map_cons, List.map_nil, List.take, List.drop, Nat.zero_add, Nat.add_zero, Nat.reduceAdd, Nat.reduceMul, Nat.zero_mul, Value.cells, List.toList_toArray, zerosA, List.replicate, List.flatten, List.append_nil]; done)) (by (dsimp only [List.set, List.append, List.cons_append, List.nil_append, roB_cells, roI_cells, roO_cells, splice, ofConst, AV.cells, List.map, List.map_cons, List.map_nil, List.take, List.drop, Nat.zero_add, Nat.add_zero, Nat.reduceAdd, Nat.reduceMul, Nat.zero_mul, Value.cells, List.toList_toArray, zerosA, List.replicate, List.flatten, List.append_nil]; done)) ?_)
            refine AO.nil ?_
            refine AQ.midI _ _ (⟨_, ‹_›, rfl, by rw [hin, optsA_snoc, List.length_append]⟩) (by repeat (first | exact envNil | refine envCons rfl ?_)) (by repeat (exact envNil)) (by repeat (first | exact subPnil | refine subPcons 0 rfl ?_))
        · skip
          rw [if_neg (by omega)] at hin
          refine AW.skip ?_
          refine AQ.midI _ _ (⟨V, hV, rfl, by rw [hin]⟩) (by repeat (first | exact envNil | refine envCons rfl ?_)) (by repeat (exact envNil)) (by repeat (first | exact subPnil | refine subPcons 0 rfl ?_))
        rintro E1 H1 ⟨W, hW, rfl, rfl⟩
        dsimp only [List.cons_append, List.nil_append]
        refine AQ.thenN ?_
        refine AW.seq ?_
        refine AW.seq ?_
        refine AW.region ?_
        refine AO.op (O.move rfl rfl) rfl rfl rfl ?_
        refine AO.op (O.eql rfl rfl rfl (by rfl)) rfl rfl rfl ?_
        refine AO.op (O.move rfl rfl) rfl rfl rfl ?_
        refine AO.opG rfl rfl rfl (fun hp => O.fieldAddr rfl rfl) ?_
        refine AO.opG rfl rfl rfl (fun hp => OpW.force 96 rfl (by exact hp) (O.load rfl rfl (by repeat (exact List.Mem.head _)) (by rfl))) ?_
        refine AO.opG rfl rfl rfl (fun hp => OpW.force 97 rfl (by exact hp) (O.eql rfl rfl rfl (by rfl))) ?_
        refine AO.op (O.pickOr rfl rfl rfl rfl (fun h => by exact congrArg (fun b => !b) h)) rfl rfl rfl ?_
        refine AO.nil ?_
        refine AQ.thenN ?_
        refine AW.joinI [(1, _), (2, _), (3, _), (7, _), (8, _), (9, _), (10, _), (12, _), (51, _), (52, _), (53, _)] (fun E H => ∃ (W' : Value), (W'.oneCell' = true) ∧ E = [] ∧ H = [.blk B6 62 2 [.val (.int .i64 (oat m.opts k).num), roB (oat m.opts k).val], .row W 62 2 (inL m.code (m.opts.take (k + 1))).length (optsA (inL m.code (m.opts.take (k + 1)))), .row W' 62 2 (outL (m.opts.take (k + 1))).length (optsA (outL (m.opts.take (k + 1)))), .blk B4 29 6 [.val (.int .i64 0), .val (.int .i64 m.code), .val (.int .i64 0), .val (.slice none 0 0), .val W, roB m.pay], .blk B5 29 6 [.val (.int .i64 m.ty), .val (.int .i64 0), .val (.int .i64 m.id), roB m.tok, .val W', .val (.slice none 0 0)], .blk B3 29 6 [.val (.int .i64 0), .val (.int .i64 0), .val (.int .i64 0), .val (.slice none 0 0), .val (.slice none 0 0), .val (.slice none 0 0)], .blk B2 29 6 [.val (.int .i64 0), .val (.int .i64 0), .val (.int .i64 0), .val (.slice none 0 0), .val (.slice none 0 0), .val (.slice none 0 0)], .blk B1 29 6 [.val (.int .i64 m.ty), .val (.int .i64 m.code), .val (.int .i64 m.id), roB m.tok, roO m.opts, roB m.pay]]) rfl (by repeat (first | exact envNil | refine envCons rfl ?_)) (fun h95 => ?_) (fun h95 => ?_) ?_ <;> try (try simp only [decide_eq_true_eq, decide_eq_false_iff_not, beq_iff_eq, beq_eq_false_iff_ne, bne_iff_ne, bne_eq_false_iff_eq, Bool.not_eq_true', Bool.not_eq_false', Bool.not_eq_true, Bool.not_eq_false, ne_eq, Int.not_lt, Int.not_le, Bool.and_eq_true, Bool.or_eq_true, Bool.or_eq_false_iff, Bool.and_eq_false_imp, strOf_toList, Decidable.not_not] at h95)
        · skip
          rw [if_pos h95] at hou
          refine AW.regionD 9 (by kernel_rfl) (by kernel_rfl) ?_
          simp only [List.take_succ_cons, List.take_zero, List.drop_succ_cons, List.drop_zero]
          refine FA.op (O.fieldAddr rfl rfl) rfl rfl rfl rfl ?_
          refine FA.op (O.load rfl rfl (by repeat (first | exact List.Mem.head _ | refine List.Mem.tail _ ?_)) (by rfl)) rfl rfl rfl rfl ?_
          refine FA.op (O.fieldAddr rfl rfl) rfl rfl rfl rfl ?_
          refine FA.op (O.load rfl rfl (by repeat (exact List.Mem.head _)) (by rfl)) rfl rfl rfl rfl ?_
          refine FA.op (O.fieldAddr rfl rfl) rfl rfl rfl rfl ?_
          refine FA.op (O.load rfl rfl (by repeat (exact List.Mem.head _)) (by rfl)) rfl rfl rfl rfl ?_
          refine FA.op (O.call rfl Try.func48 rfl rfl rfl (copy26_fn _ (by assumption))) rfl rfl rfl rfl ?_
          refine FA.op (O.build rfl rfl rfl (by rfl)) rfl rfl rfl rfl ?_
          refine FA.op (OpW.frz (O.buildSlice rfl rfl rfl (by rfl) (by rfl) (by rfl) (by rfl)) (by (unfold maxLen; omega))) rfl rfl rfl rfl ?_
          refine FA.nil ?_
          simp only [chosen, List.nil_append, List.cons_append, List.append_nil]
          (refine AO.append' (i := 2) rfl rfl rfl rfl (by rfl) (by rfl) rfl rfl rfl (by exact SrcA.ro TyD.ax (by rfl) (Nat.le_of_ble_eq_true rfl)) (by rfl) (by (unfold maxLen; omega)) (by omega) (by (dsimp only [List.set, List.append, List.cons_append, List.nil_append, roB_cells, roI_cells, roO_cells, splice, ofConst, AV.cells, List.map, List.map_cons, List.map_nil, List.take, List.drop, Nat.zero_add, Nat.add_zero, Nat.reduceAdd, Nat.reduceMul, Nat.zero_mul, Value.cells, List.toList_toArray, zerosA, List.replicate, List.flatten, List.append_nil]; done)) (fun _ => by (dsimp only [List.set]; done)) ?_)
          intro V11 hV11
          refine AO.op (O.fieldAddr rfl rfl) rfl rfl rfl ?_
          (refine AO.store (i := 4) rfl rfl rfl rfl rfl rfl (by (simp [AV.cells, AV.one, *]; done)) (by rfl) (by rfl) (by (dsimp only [List.set, List.append, List.cons_append, List.nil_append, roB_cells, roI_cells, roO_cells, splice, ofConst, AV.cells, List.map, List.map_cons, List.map_nil, List.take, List.drop, Nat.zero_add, Nat.add_zero, Nat.reduceAdd, Nat.reduceMul, Nat.zero_mul, Value.cells, List.toList_toArray, zerosA, List.replicate, List.flatten, List.append_nil]; done)) (by (dsimp only [List.set, List.append, List.cons_append, List.nil_append, roB_cells, roI_cells, roO_cells, splice, ofConst, AV.cells, List.map, List.map_cons, List.map_nil, List.take, List.drop, Nat.zero_add, Nat.add_zero, Nat.reduceAdd, Nat.reduceMul, Nat.zero_mul, Value.cells, List.toList_toArray, zerosA, List.replicate, List.flatten, List.append_nil]; done)) ?_)
          refine AO.nil ?_
          refine AQ.midI _ _ (⟨_, ‹_›, rfl, by rw [hou, optsA_snoc, List.length_append]⟩) (by repeat (first | exact envNil | refine envCons rfl ?_)) (by repeat (exact envNil)) (by repeat (first | exact subPnil | refine subPcons 0 rfl ?_))
        · skip
          rw [if_neg (by omega)] at hou
          refine AW.skip ?_
          refine AQ.midI _ _ (⟨V', hV', rfl, by rw [hou]⟩) (by repeat (first | exact envNil | refine envCons rfl ?_)) (by repeat (exact envNil)) (by repeat (first | exact subPnil | refine subPcons 0 rfl ?_))
        rintro E1 H1 ⟨W', hW', rfl, rfl⟩
        dsimp only [List.cons_append, List.nil_append]
        refine AQ.thenN ?_
        refine AW.region ?_
        refine AO.op (O.move rfl rfl) rfl rfl rfl ?_
        refine AO.op (O.move rfl rfl) rfl rfl rfl ?_
        refine AO.opG rfl rfl rfl (fun hp => O.fieldAddr rfl rfl) ?_
        refine AO.opG rfl rfl rfl (fun hp => OpW.force 113 rfl (by exact hp) (O.load rfl rfl (by repeat (exact List.Mem.head _)) (by rfl))) ?_
        refine AO.opG rfl rfl rfl (fun hp => OpW.force 114 rfl (by exact hp) (O.eql rfl rfl rfl (by rfl))) ?_
        refine AO.op (O.pickOr rfl rfl rfl rfl (fun h => by exact congrArg (fun b => !b) h)) rfl rfl rfl ?_
        refine AO.op (O.assign rfl rfl) rfl rfl rfl ?_
        refine AO.nil ?_
        refine AQ.blockN ?_
        refine AQ.thenN ?_
        refine AW.region ?_
        refine AO.op (O.add rfl rfl rfl (by exact wI64 (by omega))) rfl rfl rfl ?_
        refine AO.op (O.move rfl rfl) rfl rfl rfl ?_
        refine AO.nil ?_
        refine AQ.loopKN _ _ _ (by omega) (⟨k + 1, W, W', by omega, hW, hW', rfl, by rw [hw', hb'], rfl⟩) (by repeat (first | exact envNil | refine envCons rfl ?_)) (by repeat (first | exact envNil | refine envCons rfl ?_)) (by repeat (first | exact subPnil | refine subPcons 1 rfl ?_))
      · skip
        obtain rfl : k = m.opts.length := by omega
        rw [List.take_length] at hl1 hl2 ⊢
        refine AW.exit ?_
        refine AQ.thenX ?_
        refine AQ.loopX ?_
        refine AQ.blockX rfl ?_
        refine AQ.thenN ?_
        refine AW.seq ?_
        refine AW.seq ?_
        refine AW.region ?_
        refine AO.op (O.move rfl rfl) rfl rfl rfl ?_
        refine AO.nil ?_
        refine AQ.thenN ?_
        refine AW.split rfl (fun hb => ?_) (fun hb => ?_) <;> (try simp only [decide_eq_true_eq, decide_eq_false_iff_not, beq_iff_eq, beq_eq_false_iff_ne, bne_iff_ne, bne_eq_false_iff_eq, Bool.not_eq_true', Bool.not_eq_false', Bool.not_eq_true, Bool.not_eq_false, ne_eq, Int.not_lt, Int.not_le, Bool.and_eq_true, Bool.or_eq_true, Bool.or_eq_false_iff, Bool.and_eq_false_imp, strOf_toList, Decidable.not_not] at hb)
        · skip
          have e : splitR m = (Msg.none, Msg.none, 15) := by rw [splitR, if_pos ⟨hv, hc⟩, if_pos hb]
          refine AW.seq ?_
          refine AW.region ?_
          refine AO.op (O.build rfl rfl rfl (by rfl)) rfl rfl rfl ?_
          refine AO.op (O.build rfl rfl rfl (by rfl)) rfl rfl rfl ?_
          (refine AO.store (i := 5) rfl rfl rfl rfl rfl rfl (by rfl) (by rfl) (by rfl) (by (dsimp only [List.set, List.append, List.cons_append, List.nil_append, roB_cells, roI_cells, roO_cells, splice, ofConst, AV.cells, List.map, List.map_cons, List.map_nil, List.take, List.drop, Nat.zero_add, Nat.add_zero, Nat.reduceAdd, Nat.reduceMul, Nat.zero_mul, Value.cells, List.toList_toArray, zerosA, List.replicate, List.flatten, List.append_nil]; done)) (by (dsimp only [List.set, List.append, List.cons_append, List.nil_append, roB_cells, roI_cells, roO_cells, splice, ofConst, AV.cells, List.map, List.map_cons, List.map_nil, List.take, List.drop, Nat.zero_add, Nat.add_zero, Nat.reduceAdd, Nat.reduceMul, Nat.zero_mul, Value.cells, List.toList_toArray, zerosA, List.replicate, List.flatten, List.append_nil]; done)) ?_)
          (refine AO.store (i := 4) rfl rfl rfl rfl rfl rfl (by rfl) (by rfl) (by rfl) (by (dsimp only [List.set, List.append, List.cons_append, List.nil_append, roB_cells, roI_cells, roO_cells, splice, ofConst, AV.cells, List.map, List.map_cons, List.map_nil, List.take, List.drop, Nat.zero_add, Nat.add_zero, Nat.reduceAdd, Nat.reduceMul, Nat.zero_mul, Value.cells, List.toList_toArray, zerosA, List.replicate, List.flatten, List.append_nil]; done)) (by (dsimp only [List.set, List.append, List.cons_append, List.nil_append, roB_cells, roI_cells, roO_cells, splice, ofConst, AV.cells, List.map, List.map_cons, List.map_nil, List.take, List.drop, Nat.zero_add, Nat.add_zero, Nat.reduceAdd, Nat.reduceMul, Nat.zero_mul, Value.cells, List.toList_toArray, zerosA, List.replicate, List.flatten, List.append_nil]; done)) ?_)
          refine AO.op (O.assign rfl rfl) rfl rfl rfl ?_
          refine AO.nil ?_
          refine AQ.thenN ?_
          refine AW.ret ?_
          refine AQ.thenR ?_
          refine FnQ.coe (AQ.ret3G rfl (by exact ResAt.cell rfl (by repeat (first | exact List.Mem.head _ | refine List.Mem.tail _ ?_)) (by (dsimp only [List.set, List.append, List.cons_append, List.nil_append, roB_cells, roI_cells, roO_cells, splice, ofConst, AV.cells, List.map, List.map_cons, List.map_nil, List.take, List.drop, Nat.zero_add, Nat.add_zero, Nat.reduceAdd, Nat.reduceMul, Nat.zero_mul, Value.cells, List.toList_toArray, zerosA, List.replicate, List.flatten, List.append_nil]; done)) (by rfl)) (by exact ResAt.cell rfl (by repeat (first | exact List.Mem.head _ | refine List.Mem.tail _ ?_)) (by (dsimp only [List.set, List.append, List.cons_append, List.nil_append, roB_cells, roI_cells, roO_cells, splice, ofConst, AV.cells, List.map, List.map_cons, List.map_nil, List.take, List.drop, Nat.zero_add, Nat.add_zero, Nat.reduceAdd, Nat.reduceMul, Nat.zero_mul, Value.cells, List.toList_toArray, zerosA, List.replicate, List.flatten, List.append_nil]; done)) (by rfl)) (by exact ResAt.tmp rfl) ⟨_, List.nil_sublist _, .nil⟩ ⟨rfl, rfl⟩) (Coe.tup (by (repeat (first | exact CoeL.nil | refine CoeL.cons Coe.rfl ?_ | refine CoeL.cons Coe.nil ?_ | refine CoeL.cons (Coe.agg ?_) ?_)); done)) (ret3M e)
        · skip
          have hnb : ¬ badB m.opts = true := by rw [hb]; simp
          have e0 : splitR m = (inM m, outM m, 0) := by rw [splitR, if_pos ⟨hv, hc⟩, if_neg hnb]
          refine AW.g ?_
          refine G.freezeCell 0 1 4 rfl rfl rfl ?_
          refine AW.u ?_
          refine AW.g ?_
          refine G.freezeCell 0 1 4 rfl rfl rfl ?_
          refine AW.u ?_
          refine AW.skip ?_
          refine AQ.thenN ?_
          refine AW.seq ?_
          refine AW.block ?_
          refine AW.seq ?_
          refine AW.region ?_
          refine AO.op (O.fieldAddr rfl rfl) rfl rfl rfl ?_
          refine AO.op (O.load rfl rfl (by repeat (first | exact List.Mem.head _ | refine List.Mem.tail _ ?_)) (by rfl)) rfl rfl rfl ?_
          refine AO.op (O.call rfl Try.func45 rfl rfl rfl (rsreq_fn m.code)) rfl rfl rfl ?_
          refine AO.op (O.move rfl rfl) rfl rfl rfl ?_
          refine AO.opG rfl rfl rfl (fun hp => O.move rfl rfl) ?_
          refine AO.op (O.pickAnd rfl rfl rfl rfl (fun h => by exact h)) rfl rfl rfl ?_
          refine AO.op (O.assign rfl rfl) rfl rfl rfl ?_
          refine AO.nil ?_
          refine AQ.thenN ?_
          refine AW.split rfl (fun ha => ?_) (fun ha => ?_) <;> (try simp only [decide_eq_true_eq, decide_eq_false_iff_not, beq_iff_eq, beq_eq_false_iff_ne, bne_iff_ne, bne_eq_false_iff_eq, Bool.not_eq_true', Bool.not_eq_false', Bool.not_eq_true, Bool.not_eq_false, ne_eq, Int.not_lt, Int.not_le, Bool.and_eq_true, Bool.or_eq_true, Bool.or_eq_false_iff, Bool.and_eq_false_imp, strOf_toList, Decidable.not_not] at ha)
          · skip
            have e1 : outC m = 5 := by rw [outC, if_pos ha.1, if_pos ha.2]
            have e : splitR m = (inM m, ⟨m.ty, 5, m.id, m.tok, outL m.opts, []⟩, 0) := by rw [e0, outM, e1]
            refine AW.region ?_
            refine AO.op (O.fieldAddr rfl rfl) rfl rfl rfl ?_
            (refine AO.store (i := 1) rfl rfl rfl rfl rfl rfl (by rfl) (by rfl) (by rfl) (by (dsimp only [List.set, List.append, List.cons_append, List.nil_append, roB_cells, roI_cells, roO_cells, splice, ofConst, AV.cells, List.map, List.map_cons, List.map_nil, List.take, List.drop, Nat.zero_add, Nat.add_zero, Nat.reduceAdd, Nat.reduceMul, Nat.zero_mul, Value.cells, List.toList_toArray, zerosA, List.replicate, List.flatten, List.append_nil]; done)) (by (dsimp only [List.set, List.append, List.cons_append, List.nil_append, roB_cells, roI_cells, roO_cells, splice, ofConst, AV.cells, List.map, List.map_cons, List.map_nil, List.take, List.drop, Nat.zero_add, Nat.add_zero, Nat.reduceAdd, Nat.reduceMul, Nat.zero_mul, Value.cells, List.toList_toArray, zerosA, List.replicate, List.flatten, List.append_nil]; done)) ?_)
            refine AO.nil ?_
            refine AQ.blockN ?_
            refine AQ.thenN ?_
            refine AW.seq ?_
            refine AW.regionM [(0, false), (1, false), (2, true), (3, true), (4, false)] (by kernel_rfl) (by kernel_rfl) (by exact (by exact splitBlk 2 3 rfl rfl (by exact splitBlk 3 2 rfl rfl splitNil))) ?_
            dsimp only [List.eraseIdx]
            (refine AM.op rfl (O.loadK rfl rfl (by repeat (exact List.Mem.head _)) (by (dsimp only [List.set, List.append, List.cons_append, List.nil_append, roB_cells, roI_cells, roO_cells, splice, ofConst, AV.cells, List.map, List.map_cons, List.map_nil, List.take, List.drop, Nat.zero_add, Nat.add_zero, Nat.reduceAdd, Nat.reduceMul, Nat.zero_mul, Value.cells, List.toList_toArray, zerosA, List.replicate, List.flatten, List.append_nil]; done)) (by rfl)) rfl rfl rfl ?_)
            (refine AM.op rfl (O.loadK rfl rfl (by repeat (first | exact List.Mem.head _ | refine List.Mem.tail _ ?_)) (by (dsimp only [List.set, List.append, List.cons_append, List.nil_append, roB_cells, roI_cells, roO_cells, splice, ofConst, AV.cells, List.map, List.map_cons, List.map_nil, List.take, List.drop, Nat.zero_add, Nat.add_zero, Nat.reduceAdd, Nat.reduceMul, Nat.zero_mul, Value.cells, List.toList_toArray, zerosA, List.replicate, List.flatten, List.append_nil]; done)) (by rfl)) rfl rfl rfl ?_)
            refine AM.main _ rfl (fun w0 R0 => ?_)
            (refine AO.store (i := 0) rfl rfl rfl rfl rfl rfl (by rfl) (by rfl) (by rfl) (by (dsimp only [List.set, List.append, List.cons_append, List.nil_append, roB_cells, roI_cells, roO_cells, splice, ofConst, AV.cells, List.map, List.map_cons, List.map_nil, List.take, List.drop, Nat.zero_add, Nat.add_zero, Nat.reduceAdd, Nat.reduceMul, Nat.zero_mul, Value.cells, List.toList_toArray, zerosA, List.replicate, List.flatten, List.append_nil]; done)) (by (dsimp only [List.set, List.append, List.cons_append, List.nil_append, roB_cells, roI_cells, roO_cells, splice, ofConst, AV.cells, List.map, List.map_cons, List.map_nil, List.take, List.drop, Nat.zero_add, Nat.add_zero, Nat.reduceAdd, Nat.reduceMul, Nat.zero_mul, Value.cells, List.toList_toArray, zerosA, List.replicate, List.flatten, List.append_nil]; done)) ?_)
            refine AM.okN ?_
            dsimp only [putE]
            refine AM.main _ rfl (fun w0 R0 => ?_)
            (refine AO.store (i := 1) rfl rfl rfl rfl rfl rfl (by rfl) (by rfl) (by rfl) (by (dsimp only [List.set, List.append, List.cons_append, List.nil_append, roB_cells, roI_cells, roO_cells, splice, ofConst, AV.cells, List.map, List.map_cons, List.map_nil, List.take, List.drop, Nat.zero_add, Nat.add_zero, Nat.reduceAdd, Nat.reduceMul, Nat.zero_mul, Value.cells, List.toList_toArray, zerosA, List.replicate, List.flatten, List.append_nil]; done)) (by (dsimp only [List.set, List.append, List.cons_append, List.nil_append, roB_cells, roI_cells, roO_cells, splice, ofConst, AV.cells, List.map, List.map_cons, List.map_nil, List.take, List.drop, Nat.zero_add, Nat.add_zero, Nat.reduceAdd, Nat.reduceMul, Nat.zero_mul, Value.cells, List.toList_toArray, zerosA, List.replicate, List.flatten, List.append_nil]; done)) ?_)
            refine AM.okN ?_
            dsimp only [putE]
            refine AM.op rfl (O.assign rfl rfl) rfl rfl rfl ?_
            refine AM.nil ?_
            dsimp only [List.cons_append, List.nil_append]
            refine AQ.thenN ?_
            refine AW.ret ?_
            refine FnQ.coe (AQ.ret3G rfl (by exact ResAt.cell rfl (by repeat (exact List.Mem.head _)) (by (dsimp only [List.set, List.append, List.cons_append, List.nil_append, roB_cells, roI_cells, roO_cells, splice, ofConst, AV.cells, List.map, List.map_cons, List.map_nil, List.take, List.drop, Nat.zero_add, Nat.add_zero, Nat.reduceAdd, Nat.reduceMul, Nat.zero_mul, Value.cells, List.toList_toArray, zerosA, List.replicate, List.flatten, List.append_nil]; done)) (by rfl)) (by exact ResAt.cell rfl (by repeat (first | exact List.Mem.head _ | refine List.Mem.tail _ ?_)) (by (dsimp only [List.set, List.append, List.cons_append, List.nil_append, roB_cells, roI_cells, roO_cells, splice, ofConst, AV.cells, List.map, List.map_cons, List.map_nil, List.take, List.drop, Nat.zero_add, Nat.add_zero, Nat.reduceAdd, Nat.reduceMul, Nat.zero_mul, Value.cells, List.toList_toArray, zerosA, List.replicate, List.flatten, List.append_nil]; done)) (by rfl)) (by exact ResAt.tmp rfl) ⟨_, List.nil_sublist _, .nil⟩ ⟨rfl, rfl⟩) (Coe.tup (by (repeat (first | exact CoeL.nil | refine CoeL.cons Coe.rfl ?_ | refine CoeL.cons Coe.nil ?_ | refine CoeL.cons (Coe.agg ?_) ?_)); done)) (ret3M e)
          · skip
            refine AW.seq ?_
            refine AW.region ?_
            refine AO.op (O.fieldAddr rfl rfl) rfl rfl rfl ?_
            refine AO.op (O.load rfl rfl (by repeat (first | exact List.Mem.head _ | refine List.Mem.tail _ ?_)) (by rfl)) rfl rfl rfl ?_
            refine AO.op (O.call rfl Try.func45 rfl rfl rfl (rsreq_fn m.code)) rfl rfl rfl ?_
            refine AO.op (O.assign rfl rfl) rfl rfl rfl ?_
            refine AO.nil ?_
            refine AQ.thenN ?_
            refine AW.split rfl (fun hd => ?_) (fun hd => ?_) <;> (try simp only [decide_eq_true_eq, decide_eq_false_iff_not, beq_iff_eq, beq_eq_false_iff_ne, bne_iff_ne, bne_eq_false_iff_eq, Bool.not_eq_true', Bool.not_eq_false', Bool.not_eq_true, Bool.not_eq_false, ne_eq, Int.not_lt, Int.not_le, Bool.and_eq_true, Bool.or_eq_true, Bool.or_eq_false_iff, Bool.and_eq_false_imp, strOf_toList, Decidable.not_not] at hd)
            · skip
              have e1 : outC m = 2 := by rw [outC, if_pos hd, if_neg (by rw [ha hd]; simp)]
              have e : splitR m = (inM m, ⟨m.ty, 2, m.id, m.tok, outL m.opts, []⟩, 0) := by rw [e0, outM, e1]
              refine AW.region ?_
              refine AO.op (O.fieldAddr rfl rfl) rfl rfl rfl ?_
              (refine AO.store (i := 1) rfl rfl rfl rfl rfl rfl (by rfl) (by rfl) (by rfl) (by (dsimp only [List.set, List.append, List.cons_append, List.nil_append, roB_cells, roI_cells, roO_cells, splice, ofConst, AV.cells, List.map, List.map_cons, List.map_nil, List.take, List.drop, Nat.zero_add, Nat.add_zero, Nat.reduceAdd, Nat.reduceMul, Nat.zero_mul, Value.cells, List.toList_toArray, zerosA, List.replicate, List.flatten, List.append_nil]; done)) (by (dsimp only [List.set, List.append, List.cons_append, List.nil_append, roB_cells, roI_cells, roO_cells, splice, ofConst, AV.cells, List.map, List.map_cons, List.map_nil, List.take, List.drop, Nat.zero_add, Nat.add_zero, Nat.reduceAdd, Nat.reduceMul, Nat.zero_mul, Value.cells, List.toList_toArray, zerosA, List.replicate, List.flatten, List.append_nil]; done)) ?_)
              refine AO.nil ?_
              refine AQ.blockN ?_
              refine AQ.thenN ?_
              refine AW.seq ?_
              refine AW.regionM [(0, false), (1, false), (2, true), (3, true), (4, false)] (by kernel_rfl) (by kernel_rfl) (by exact (by exact splitBlk 2 3 rfl rfl (by exact splitBlk 3 2 rfl rfl splitNil))) ?_
              dsimp only [List.eraseIdx]
              (refine AM.op rfl (O.loadK rfl rfl (by repeat (exact List.Mem.head _)) (by (dsimp only [List.set, List.append, List.cons_append, List.nil_append, roB_cells, roI_cells, roO_cells, splice, ofConst, AV.cells, List.map, List.map_cons, List.map_nil, List.take, List.drop, Nat.zero_add, Nat.add_zero, Nat.reduceAdd, Nat.reduceMul, Nat.zero_mul, Value.cells, List.toList_toArray, zerosA, List.replicate, List.flatten, List.append_nil]; done)) (by rfl)) rfl rfl rfl ?_)
              (refine AM.op rfl (O.loadK rfl rfl (by repeat (first | exact List.Mem.head _ | refine List.Mem.tail _ ?_)) (by (dsimp only [List.set, List.append, List.cons_append, List.nil_append, roB_cells, roI_cells, roO_cells, splice, ofConst, AV.cells, List.map, List.map_cons, List.map_nil, List.take, List.drop, Nat.zero_add, Nat.add_zero, Nat.reduceAdd, Nat.reduceMul, Nat.zero_mul, Value.cells, List.toList_toArray, zerosA, List.replicate, List.flatten, List.append_nil]; done)) (by rfl)) rfl rfl rfl ?_)
              refine AM.main _ rfl (fun w0 R0 => ?_)
              (refine AO.store (i := 0) rfl rfl rfl rfl rfl rfl (by rfl) (by rfl) (by rfl) (by (dsimp only [List.set, List.append, List.cons_append, List.nil_append, roB_cells, roI_cells, roO_cells, splice, ofConst, AV.cells, List.map, List.map_cons, List.map_nil, List.take, List.drop, Nat.zero_add, Nat.add_zero, Nat.reduceAdd, Nat.reduceMul, Nat.zero_mul, Value.cells, List.toList_toArray, zerosA, List.replicate, List.flatten, List.append_nil]; done)) (by (dsimp only [List.set, List.append, List.cons_append, List.nil_append, roB_cells, roI_cells, roO_cells, splice, ofConst, AV.cells, List.map, List.map_cons, List.map_nil, List.take, List.drop, Nat.zero_add, Nat.add_zero, Nat.reduceAdd, Nat.reduceMul, Nat.zero_mul, Value.cells, List.toList_toArray, zerosA, List.replicate, List.flatten, List.append_nil]; done)) ?_)
              refine AM.okN ?_
              dsimp only [putE]
              refine AM.main _ rfl (fun w0 R0 => ?_)
              (refine AO.store (i := 1) rfl rfl rfl rfl rfl rfl (by rfl) (by rfl) (by rfl) (by (dsimp only [List.set, List.append, List.cons_append, List.nil_append, roB_cells, roI_cells, roO_cells, splice, ofConst, AV.cells, List.map, List.map_cons, List.map_nil, List.take, List.drop, Nat.zero_add, Nat.add_zero, Nat.reduceAdd, Nat.reduceMul, Nat.zero_mul, Value.cells, List.toList_toArray, zerosA, List.replicate, List.flatten, List.append_nil]; done)) (by (dsimp only [List.set, List.append, List.cons_append, List.nil_append, roB_cells, roI_cells, roO_cells, splice, ofConst, AV.cells, List.map, List.map_cons, List.map_nil, List.take, List.drop, Nat.zero_add, Nat.add_zero, Nat.reduceAdd, Nat.reduceMul, Nat.zero_mul, Value.cells, List.toList_toArray, zerosA, List.replicate, List.flatten, List.append_nil]; done)) ?_)
              refine AM.okN ?_
              dsimp only [putE]
              refine AM.op rfl (O.assign rfl rfl) rfl rfl rfl ?_
              refine AM.nil ?_
              dsimp only [List.cons_append, List.nil_append]
              refine AQ.thenN ?_
              refine AW.ret ?_
              refine FnQ.coe (AQ.ret3G rfl (by exact ResAt.cell rfl (by repeat (exact List.Mem.head _)) (by (dsimp only [List.set, List.append, List.cons_append, List.nil_append, roB_cells, roI_cells, roO_cells, splice, ofConst, AV.cells, List.map, List.map_cons, List.map_nil, List.take, List.drop, Nat.zero_add, Nat.add_zero, Nat.reduceAdd, Nat.reduceMul, Nat.zero_mul, Value.cells, List.toList_toArray, zerosA, List.replicate, List.flatten, List.append_nil]; done)) (by rfl)) (by exact ResAt.cell rfl (by repeat (first | exact List.Mem.head _ | refine List.Mem.tail _ ?_)) (by (dsimp only [List.set, List.append, List.cons_append, List.nil_append, roB_cells, roI_cells, roO_cells, splice, ofConst, AV.cells, List.map, List.map_cons, List.map_nil, List.take, List.drop, Nat.zero_add, Nat.add_zero, Nat.reduceAdd, Nat.reduceMul, Nat.zero_mul, Value.cells, List.toList_toArray, zerosA, List.replicate, List.flatten, List.append_nil]; done)) (by rfl)) (by exact ResAt.tmp rfl) ⟨_, List.nil_sublist _, .nil⟩ ⟨rfl, rfl⟩) (Coe.tup (by (repeat (first | exact CoeL.nil | refine CoeL.cons Coe.rfl ?_ | refine CoeL.cons Coe.nil ?_ | refine CoeL.cons (Coe.agg ?_) ?_)); done)) (ret3M e)
            · skip
              refine AW.seq ?_
              refine AW.region ?_
              refine AO.op (O.move rfl rfl) rfl rfl rfl ?_
              refine AO.op (O.assign rfl rfl) rfl rfl rfl ?_
              refine AO.nil ?_
              refine AQ.thenN ?_
              refine AW.split rfl (fun hf => ?_) (fun hf => ?_) <;> (try simp only [decide_eq_true_eq, decide_eq_false_iff_not, beq_iff_eq, beq_eq_false_iff_ne, bne_iff_ne, bne_eq_false_iff_eq, Bool.not_eq_true', Bool.not_eq_false', Bool.not_eq_true, Bool.not_eq_false, ne_eq, Int.not_lt, Int.not_le, Bool.and_eq_true, Bool.or_eq_true, Bool.or_eq_false_iff, Bool.and_eq_false_imp, strOf_toList, Decidable.not_not] at hf)
              · skip
                have e1 : outC m = 69 := by rw [outC, if_neg (by rw [hd]; simp), if_pos hf]
                have e : splitR m = (inM m, ⟨m.ty, 69, m.id, m.tok, outL m.opts, []⟩, 0) := by rw [e0, outM, e1]
                refine AW.region ?_
                refine AO.op (O.fieldAddr rfl rfl) rfl rfl rfl ?_
                (refine AO.store (i := 1) rfl rfl rfl rfl rfl rfl (by rfl) (by rfl) (by rfl) (by (dsimp only [List.set, List.append, List.cons_append, List.nil_append, roB_cells, roI_cells, roO_cells, splice, ofConst, AV.cells, List.map, List.map_cons, List.map_nil, List.take, List.drop, Nat.zero_add, Nat.add_zero, Nat.reduceAdd, Nat.reduceMul, Nat.zero_mul, Value.cells, List.toList_toArray, zerosA, List.replicate, List.flatten, List.append_nil]; done)) (by (dsimp only [List.set, List.append, List.cons_append, List.nil_append, roB_cells, roI_cells, roO_cells, splice, ofConst, AV.cells, List.map, List.map_cons, List.map_nil, List.take, List.drop, Nat.zero_add, Nat.add_zero, Nat.reduceAdd, Nat.reduceMul, Nat.zero_mul, Value.cells, List.toList_toArray, zerosA, List.replicate, List.flatten, List.append_nil]; done)) ?_)
                refine AO.nil ?_
                refine AQ.blockN ?_
                refine AQ.thenN ?_
                refine AW.seq ?_
                refine AW.regionM [(0, false), (1, false), (2, true), (3, true), (4, false)] (by kernel_rfl) (by kernel_rfl) (by exact (by exact splitBlk 2 3 rfl rfl (by exact splitBlk 3 2 rfl rfl splitNil))) ?_
                dsimp only [List.eraseIdx]
                (refine AM.op rfl (O.loadK rfl rfl (by repeat (exact List.Mem.head _)) (by (dsimp only [List.set, List.append, List.cons_append, List.nil_append, roB_cells, roI_cells, roO_cells, splice, ofConst, AV.cells, List.map, List.map_cons, List.map_nil, List.take, List.drop, Nat.zero_add, Nat.add_zero, Nat.reduceAdd, Nat.reduceMul, Nat.zero_mul, Value.cells, List.toList_toArray, zerosA, List.replicate, List.flatten, List.append_nil]; done)) (by rfl)) rfl rfl rfl ?_)
                (refine AM.op rfl (O.loadK rfl rfl (by repeat (first | exact List.Mem.head _ | refine List.Mem.tail _ ?_)) (by (dsimp only [List.set, List.append, List.cons_append, List.nil_append, roB_cells, roI_cells, roO_cells, splice, ofConst, AV.cells, List.map, List.map_cons, List.map_nil, List.take, List.drop, Nat.zero_add, Nat.add_zero, Nat.reduceAdd, Nat.reduceMul, Nat.zero_mul, Value.cells, List.toList_toArray, zerosA, List.replicate, List.flatten, List.append_nil]; done)) (by rfl)) rfl rfl rfl ?_)
                refine AM.main _ rfl (fun w0 R0 => ?_)
                (refine AO.store (i := 0) rfl rfl rfl rfl rfl rfl (by rfl) (by rfl) (by rfl) (by (dsimp only [List.set, List.append, List.cons_append, List.nil_append, roB_cells, roI_cells, roO_cells, splice, ofConst, AV.cells, List.map, List.map_cons, List.map_nil, List.take, List.drop, Nat.zero_add, Nat.add_zero, Nat.reduceAdd, Nat.reduceMul, Nat.zero_mul, Value.cells, List.toList_toArray, zerosA, List.replicate, List.flatten, List.append_nil]; done)) (by (dsimp only [List.set, List.append, List.cons_append, List.nil_append, roB_cells, roI_cells, roO_cells, splice, ofConst, AV.cells, List.map, List.map_cons, List.map_nil, List.take, List.drop, Nat.zero_add, Nat.add_zero, Nat.reduceAdd, Nat.reduceMul, Nat.zero_mul, Value.cells, List.toList_toArray, zerosA, List.replicate, List.flatten, List.append_nil]; done)) ?_)
                refine AM.okN ?_
                dsimp only [putE]
                refine AM.main _ rfl (fun w0 R0 => ?_)
                (refine AO.store (i := 1) rfl rfl rfl rfl rfl rfl (by rfl) (by rfl) (by rfl) (by (dsimp only [List.set, List.append, List.cons_append, List.nil_append, roB_cells, roI_cells, roO_cells, splice, ofConst, AV.cells, List.map, List.map_cons, List.map_nil, List.take, List.drop, Nat.zero_add, Nat.add_zero, Nat.reduceAdd, Nat.reduceMul, Nat.zero_mul, Value.cells, List.toList_toArray, zerosA, List.replicate, List.flatten, List.append_nil]; done)) (by (dsimp only [List.set, List.append, List.cons_append, List.nil_append, roB_cells, roI_cells, roO_cells, splice, ofConst, AV.cells, List.map, List.map_cons, List.map_nil, List.take, List.drop, Nat.zero_add, Nat.add_zero, Nat.reduceAdd, Nat.reduceMul, Nat.zero_mul, Value.cells, List.toList_toArray, zerosA, List.replicate, List.flatten, List.append_nil]; done)) ?_)
                refine AM.okN ?_
                dsimp only [putE]
                refine AM.op rfl (O.assign rfl rfl) rfl rfl rfl ?_
                refine AM.nil ?_
                dsimp only [List.cons_append, List.nil_append]
                refine AQ.thenN ?_
                refine AW.ret ?_
                refine FnQ.coe (AQ.ret3G rfl (by exact ResAt.cell rfl (by repeat (exact List.Mem.head _)) (by (dsimp only [List.set, List.append, List.cons_append, List.nil_append, roB_cells, roI_cells, roO_cells, splice, ofConst, AV.cells, List.map, List.map_cons, List.map_nil, List.take, List.drop, Nat.zero_add, Nat.add_zero, Nat.reduceAdd, Nat.reduceMul, Nat.zero_mul, Value.cells, List.toList_toArray, zerosA, List.replicate, List.flatten, List.append_nil]; done)) (by rfl)) (by exact ResAt.cell rfl (by repeat (first | exact List.Mem.head _ | refine List.Mem.tail _ ?_)) (by (dsimp only [List.set, List.append, List.cons_append, List.nil_append, roB_cells, roI_cells, roO_cells, splice, ofConst, AV.cells, List.map, List.map_cons, List.map_nil, List.take, List.drop, Nat.zero_add, Nat.add_zero, Nat.reduceAdd, Nat.reduceMul, Nat.zero_mul, Value.cells, List.toList_toArray, zerosA, List.replicate, List.flatten, List.append_nil]; done)) (by rfl)) (by exact ResAt.tmp rfl) ⟨_, List.nil_sublist _, .nil⟩ ⟨rfl, rfl⟩) (Coe.tup (by (repeat (first | exact CoeL.nil | refine CoeL.cons Coe.rfl ?_ | refine CoeL.cons Coe.nil ?_ | refine CoeL.cons (Coe.agg ?_) ?_)); done)) (ret3M e)
              · skip
                have e1 : outC m = 68 := by rw [outC, if_neg (by rw [hd]; simp), if_neg (by rw [hf]; simp)]
                have e : splitR m = (inM m, ⟨m.ty, 68, m.id, m.tok, outL m.opts, []⟩, 0) := by rw [e0, outM, e1]
                refine AW.region ?_
                refine AO.op (O.fieldAddr rfl rfl) rfl rfl rfl ?_
                (refine AO.store (i := 1) rfl rfl rfl rfl rfl rfl (by rfl) (by rfl) (by rfl) (by (dsimp only [List.set, List.append, List.cons_append, List.nil_append, roB_cells, roI_cells, roO_cells, splice, ofConst, AV.cells, List.map, List.map_cons, List.map_nil, List.take, List.drop, Nat.zero_add, Nat.add_zero, Nat.reduceAdd, Nat.reduceMul, Nat.zero_mul, Value.cells, List.toList_toArray, zerosA, List.replicate, List.flatten, List.append_nil]; done)) (by (dsimp only [List.set, List.append, List.cons_append, List.nil_append, roB_cells, roI_cells, roO_cells, splice, ofConst, AV.cells, List.map, List.map_cons, List.map_nil, List.take, List.drop, Nat.zero_add, Nat.add_zero, Nat.reduceAdd, Nat.reduceMul, Nat.zero_mul, Value.cells, List.toList_toArray, zerosA, List.replicate, List.flatten, List.append_nil]; done)) ?_)
                refine AO.nil ?_
                refine AQ.blockN ?_
                refine AQ.thenN ?_
                refine AW.seq ?_
                refine AW.regionM [(0, false), (1, false), (2, true), (3, true), (4, false)] (by kernel_rfl) (by kernel_rfl) (by exact (by exact splitBlk 2 3 rfl rfl (by exact splitBlk 3 2 rfl rfl splitNil))) ?_
                dsimp only [List.eraseIdx]
                (refine AM.op rfl (O.loadK rfl rfl (by repeat (exact List.Mem.head _)) (by (dsimp only [List.set, List.append, List.cons_append, List.nil_append, roB_cells, roI_cells, roO_cells, splice, ofConst, AV.cells, List.map, List.map_cons, List.map_nil, List.take, List.drop, Nat.zero_add, Nat.add_zero, Nat.reduceAdd, Nat.reduceMul, Nat.zero_mul, Value.cells, List.toList_toArray, zerosA, List.replicate, List.flatten, List.append_nil]; done)) (by rfl)) rfl rfl rfl ?_)
                (refine AM.op rfl (O.loadK rfl rfl (by repeat (first | exact List.Mem.head _ | refine List.Mem.tail _ ?_)) (by (dsimp only [List.set, List.append, List.cons_append, List.nil_append, roB_cells, roI_cells, roO_cells, splice, ofConst, AV.cells, List.map, List.map_cons, List.map_nil, List.take, List.drop, Nat.zero_add, Nat.add_zero, Nat.reduceAdd, Nat.reduceMul, Nat.zero_mul, Value.cells, List.toList_toArray, zerosA, List.replicate, List.flatten, List.append_nil]; done)) (by rfl)) rfl rfl rfl ?_)
                refine AM.main _ rfl (fun w0 R0 => ?_)
                (refine AO.store (i := 0) rfl rfl rfl rfl rfl rfl (by rfl) (by rfl) (by rfl) (by (dsimp only [List.set, List.append, List.cons_append, List.nil_append, roB_cells, roI_cells, roO_cells, splice, ofConst, AV.cells, List.map, List.map_cons, List.map_nil, List.take, List.drop, Nat.zero_add, Nat.add_zero, Nat.reduceAdd, Nat.reduceMul, Nat.zero_mul, Value.cells, List.toList_toArray, zerosA, List.replicate, List.flatten, List.append_nil]; done)) (by (dsimp only [List.set, List.append, List.cons_append, List.nil_append, roB_cells, roI_cells, roO_cells, splice, ofConst, AV.cells, List.map, List.map_cons, List.map_nil, List.take, List.drop, Nat.zero_add, Nat.add_zero, Nat.reduceAdd, Nat.reduceMul, Nat.zero_mul, Value.cells, List.toList_toArray, zerosA, List.replicate, List.flatten, List.append_nil]; done)) ?_)
                refine AM.okN ?_
                dsimp only [putE]
                refine AM.main _ rfl (fun w0 R0 => ?_)
                (refine AO.store (i := 1) rfl rfl rfl rfl rfl rfl (by rfl) (by rfl) (by rfl) (by (dsimp only [List.set, List.append, List.cons_append, List.nil_append, roB_cells, roI_cells, roO_cells, splice, ofConst, AV.cells, List.map, List.map_cons, List.map_nil, List.take, List.drop, Nat.zero_add, Nat.add_zero, Nat.reduceAdd, Nat.reduceMul, Nat.zero_mul, Value.cells, List.toList_toArray, zerosA, List.replicate, List.flatten, List.append_nil]; done)) (by (dsimp only [List.set, List.append, List.cons_append, List.nil_append, roB_cells, roI_cells, roO_cells, splice, ofConst, AV.cells, List.map, List.map_cons, List.map_nil, List.take, List.drop, Nat.zero_add, Nat.add_zero, Nat.reduceAdd, Nat.reduceMul, Nat.zero_mul, Value.cells, List.toList_toArray, zerosA, List.replicate, List.flatten, List.append_nil]; done)) ?_)
                refine AM.okN ?_
                dsimp only [putE]
                refine AM.op rfl (O.assign rfl rfl) rfl rfl rfl ?_
                refine AM.nil ?_
                dsimp only [List.cons_append, List.nil_append]
                refine AQ.thenN ?_
                refine AW.ret ?_
                refine FnQ.coe (AQ.ret3G rfl (by exact ResAt.cell rfl (by repeat (exact List.Mem.head _)) (by (dsimp only [List.set, List.append, List.cons_append, List.nil_append, roB_cells, roI_cells, roO_cells, splice, ofConst, AV.cells, List.map, List.map_cons, List.map_nil, List.take, List.drop, Nat.zero_add, Nat.add_zero, Nat.reduceAdd, Nat.reduceMul, Nat.zero_mul, Value.cells, List.toList_toArray, zerosA, List.replicate, List.flatten, List.append_nil]; done)) (by rfl)) (by exact ResAt.cell rfl (by repeat (first | exact List.Mem.head _ | refine List.Mem.tail _ ?_)) (by (dsimp only [List.set, List.append, List.cons_append, List.nil_append, roB_cells, roI_cells, roO_cells, splice, ofConst, AV.cells, List.map, List.map_cons, List.map_nil, List.take, List.drop, Nat.zero_add, Nat.add_zero, Nat.reduceAdd, Nat.reduceMul, Nat.zero_mul, Value.cells, List.toList_toArray, zerosA, List.replicate, List.flatten, List.append_nil]; done)) (by rfl)) (by exact ResAt.tmp rfl) ⟨_, List.nil_sublist _, .nil⟩ ⟨rfl, rfl⟩) (Coe.tup (by (repeat (first | exact CoeL.nil | refine CoeL.cons Coe.rfl ?_ | refine CoeL.cons Coe.nil ?_ | refine CoeL.cons (Coe.agg ?_) ?_)); done)) (ret3M e)
end Go.Proofs.Ytbmndjjaaeambaa.By

/-
  Layer 30: SplitParts, walked.
-/
namespace Go.Proofs.Ytbmndjjaaeambaa.By
open Go.RowKit L A Dk
set_option linter.unusedVariables false
set_option linter.unusedSimpArgs false
attribute [local irreducible] AW AQ AO
def msgsA (ms : List Msg) : List AV := ms.flatMap cellsM
def roMs (ms : List Msg) : AV := .ro false ms.length (msgsA ms)
abbrev mat (ms : List Msg) (k : Nat) : Msg := ms.getD k Msg.none
theorem getMs {ms : List Msg} {k : Nat} (h : k < ms.length) {j : Nat} (hj : j = k) : ((msgsA ms).drop (j * 6)).take 6 = cellsM (mat ms k) := flat_at cellsM_len Msg.none h hj
theorem DM.sm {q : Bool} {m : Msg} (h : DM q m) : SmM m := by
  obtain ⟨-, -, -, h4, h5⟩ := h
  exact ⟨by omega, by omega, by have := h5.1.2.1; omega, fun o ho => by have := h5.1.2.2 o ho; omega⟩
theorem splitR_len (m : Msg) : (splitR m).1.opts.length ≤ 1000000 ∧ (splitR m).2.1.opts.length ≤ 1000000 := by
  unfold splitR
  (repeat' split) <;> first | exact ⟨Nat.zero_le _, Nat.zero_le _⟩ | skip
  rename_i h _
  have h1 := h.1.sm.2.2.1
  have h2 := inL_len m.code m.opts
  have h3 := outL_len m.opts
  exact ⟨by show (inL m.code m.opts).length ≤ _; omega, by show (outL m.opts).length ≤ _; omega⟩
set_option maxHeartbeats 4000000 in
theorem lawParts_fn (m : Msg) (l : List Int) (num : Int) (hop : m.opts.length ≤ maxLen) (hl : l.length ≤ maxLen) : Sp Try.prog 4 [aggM m, roI l, .val (.int .i64 num)] [] (Is (.val (.bool true))) := by
  refine Sp.enter Try.func4 rfl _ Try.ntmps4 rfl (fun w0 R0 => ?_)
  refine AW.seq ?_
  refine AW.region ?_
  refine AO.opB (O.box rfl rfl rfl rfl rfl) rfl rfl rfl ?_
  intro B1
  refine AO.op (O.assign rfl rfl) rfl rfl rfl ?_
  refine AO.nil ?_
  refine AQ.thenN ?_
  refine AW.seq ?_
  refine AW.seq ?_
  refine AW.region ?_
  refine AO.op (O.loadK rfl rfl (by repeat (exact List.Mem.head _)) (by rfl) (by rfl)) rfl rfl rfl ?_
  refine AO.op (O.call rfl Try.func13 rfl rfl rfl (smallM_fn m hop)) rfl rfl rfl ?_
  refine AO.op (O.not rfl rfl (by rfl)) rfl rfl rfl ?_
  refine AO.nil ?_
  refine AQ.thenN ?_
  refine AW.split rfl (fun h => ?_) (fun h => ?_) <;> (try simp only [decide_eq_true_eq, decide_eq_false_iff_not, beq_iff_eq, beq_eq_false_iff_ne, bne_iff_ne, bne_eq_false_iff_eq, Bool.not_eq_true', Bool.not_eq_false', Bool.not_eq_true, Bool.not_eq_false, ne_eq, Int.not_lt, Int.not_le, Bool.and_eq_true, Bool.or_eq_true, Bool.or_eq_false_iff, Bool.and_eq_false_imp, strOf_toList, Decidable.not_not] at h)
  · skip
    refine AW.seq ?_
    refine AW.region ?_
    refine AO.op (O.call rfl Try.func12 rfl rfl rfl (awake30_fn)) rfl rfl rfl ?_
    refine AO.op (O.assign rfl rfl) rfl rfl rfl ?_
    refine AO.nil ?_
    refine AQ.thenN ?_
    refine AW.ret ?_
    refine AQ.thenR ?_
    refine AQ.ret1 rfl rfl ⟨_, List.nil_sublist _, .nil⟩ (⟨rfl, rfl⟩)
  · skip
    refine AW.skip ?_
    refine AQ.thenN ?_
    refine AW.seq ?_
    refine AW.region ?_
    refine AO.op (O.move rfl rfl) rfl rfl rfl ?_
    refine AO.opB (O.call rfl Try.func14 rfl rfl rfl (new_fn _)) rfl rfl rfl ?_
    intro B2
    refine AO.op (O.assign rfl rfl) rfl rfl rfl ?_
    refine AO.nil ?_
    refine AQ.thenN ?_
    refine AW.seq ?_
    refine AW.region ?_
    refine AO.op (O.move rfl rfl) rfl rfl rfl ?_
    refine AO.callMG 0 rfl rfl Try.func15 rfl rfl rfl rfl rfl rfl (request_any _ l _ hl (by exact Nat.zero_le _)) ?_
    rintro _ _ ⟨⟨m3, hm3, rfl⟩, kd3, hkd3, rfl⟩
    dsimp only [List.cons_append, List.nil_append, List.eraseIdx]
    refine AO.opB (O.alloc rfl (by (dsimp only [List.set, List.append, List.cons_append, List.nil_append, roB_cells, roI_cells, roO_cells, splice, ofConst, AV.cells, List.map, List.map_cons, List.map_nil, List.take, List.drop, Nat.zero_add, Nat.add_zero, Nat.reduceAdd, Nat.reduceMul, Nat.zero_mul, Value.cells, List.toList_toArray, zerosA, List.replicate, List.flatten, List.append_nil]; done)) (by rfl)) rfl rfl rfl ?_
    intro B4
    (refine AO.store (i := 0) rfl rfl rfl rfl rfl rfl (by rfl) (by rfl) (by rfl) (by (dsimp only [List.set, List.append, List.cons_append, List.nil_append, roB_cells, roI_cells, roO_cells, splice, ofConst, AV.cells, List.map, List.map_cons, List.map_nil, List.take, List.drop, Nat.zero_add, Nat.add_zero, Nat.reduceAdd, Nat.reduceMul, Nat.zero_mul, Value.cells, List.toList_toArray, zerosA, List.replicate, List.flatten, List.append_nil]; done)) (by (dsimp only [List.set, List.append, List.cons_append, List.nil_append, roB_cells, roI_cells, roO_cells, splice, ofConst, AV.cells, List.map, List.map_cons, List.map_nil, List.take, List.drop, Nat.zero_add, Nat.add_zero, Nat.reduceAdd, Nat.reduceMul, Nat.zero_mul, Value.cells, List.toList_toArray, zerosA, List.replicate, List.flatten, List.append_nil]; done)) ?_)
    refine AO.nil ?_
    refine AQ.thenN ?_
    refine AW.seq ?_
    refine AW.seq ?_
    refine AW.regionM [(0, false), (1, false), (2, false), (4, false), (5, false), (8, false), (9, false), (11, false), (12, false), (16, false), (3, true), (6, true), (7, true), (10, false), (13, false), (14, false), (15, false)] (by kernel_rfl) (by kernel_rfl) (by exact (by exact splitBlk 7 1 rfl rfl splitNil)) ?_
    dsimp only [List.eraseIdx]
    refine AM.op rfl (O.loadK rfl rfl (by repeat (first | exact List.Mem.head _ | refine List.Mem.tail _ ?_)) (by rfl) (by rfl)) rfl rfl rfl ?_
    refine AM.op rfl (O.loadK rfl rfl (by repeat (exact List.Mem.head _)) (by rfl) (by rfl)) rfl rfl rfl ?_
    refine AM.op rfl (O.move rfl rfl) rfl rfl rfl ?_
    refine AM.op rfl (O.move rfl rfl) rfl rfl rfl ?_
    refine AM.op rfl (O.move rfl rfl) rfl rfl rfl ?_
    refine AM.op rfl (O.loadK rfl rfl (by repeat (exact List.Mem.head _)) (by rfl) (by rfl)) rfl rfl rfl ?_
    refine AM.op rfl (O.move rfl rfl) rfl rfl rfl ?_
    refine AM.op rfl (OpW.frz (O.buildSlice rfl rfl rfl (by rfl) (by rfl) (by rfl) (by rfl)) (by (unfold maxLen; omega))) rfl rfl rfl ?_
    refine AM.op rfl (OpW.frz (O.buildSlice rfl rfl rfl (by rfl) (by rfl) (by rfl) (by rfl)) (by (unfold maxLen; omega))) rfl rfl rfl ?_
    refine AM.op rfl (O.move rfl rfl) rfl rfl rfl ?_
    refine AM.main _ rfl (fun w0 R0 => ?_)
    refine AO.callMG 0 rfl rfl Try.func16 rfl rfl rfl rfl rfl rfl (response_any _ l _ hl (by assumption)) ?_
    rintro _ _ ⟨⟨m5, hm5, rfl⟩, kd5, hkd5, rfl⟩
    dsimp only [List.cons_append, List.nil_append, List.eraseIdx]
    refine AM.ok ?_
    dsimp only [putE]
    refine AM.main _ rfl (fun w0 R0 => ?_)
    refine AO.callMG 0 rfl rfl Try.func18 rfl rfl rfl rfl rfl rfl (code_any _ l _ hl (by assumption)) ?_
    rintro _ _ ⟨⟨c6, hc6, rfl⟩, kd6, hkd6, rfl⟩
    dsimp only [List.cons_append, List.nil_append, List.eraseIdx]
    refine AM.ok ?_
    dsimp only [putE]
    refine AM.main _ rfl (fun w0 R0 => ?_)
    refine AO.callMG 0 rfl rfl Try.func17 rfl rfl rfl rfl rfl rfl (message_any _ l _ _ (by assumption) hl (by assumption)) ?_
    rintro _ _ ⟨⟨m7, hm7, rfl⟩, kd7, hkd7, rfl⟩
    dsimp only [List.cons_append, List.nil_append, List.eraseIdx]
    refine AM.ok ?_
    dsimp only [putE]
    refine AM.op rfl (O.call rfl Try.func11 rfl rfl rfl (Dk.mod_fn _ _ (by omega) (by omega))) rfl rfl rfl ?_
    (refine AM.op rfl (O.call rfl Try.func19 rfl rfl rfl (set_fn m3 (num % 65536) [[1]] hm3.sm.1 hm3.sm.2.1 (by have := hm3.2.2.2.2.1.2.1; omega) (by simp) hm3.sm.2.2.2 (by simp))) rfl rfl rfl ?_)
    refine AM.op rfl (OpW.frz (O.buildSliceF rfl rfl rfl (by rfl) (by rfl) (by rfl) (by rfl) (by rfl)) (by (unfold maxLen; omega))) rfl rfl rfl ?_
    refine AM.op rfl (O.lenR rfl rfl) rfl rfl rfl ?_
    refine AM.nil ?_
    dsimp only [List.cons_append, List.nil_append]
    refine AQ.thenN ?_
    refine AW.block ?_
    obtain ⟨ms, hms⟩ : ∃ ms : List Msg, ms = [m, m3, m5, m7, ⟨m3.ty, m3.code, m3.id, m3.tok, setO m3.opts (num % 65536) [[1]], m3.pay⟩] := ⟨_, rfl⟩
    have hml : ms.length = 5 := by rw [hms]; rfl
    refine AW.g ?_
    refine G.re 39 (roMs ms) (by rw [hms]; rfl) ?_
    refine AW.u ?_
    refine AW.loopK [(39, _), (40, _)] (fun nn E H => ∃ (k : Nat), (k ≤ 5) ∧ nn = 5 - k ∧ E = [(41, .val (.int .i64 (k : Int)))] ∧ H = []) _ (⟨0, by omega, rfl, rfl, rfl⟩) (by repeat (first | exact envNil | refine envCons rfl ?_)) (by repeat (first | exact envNil | refine envCons rfl ?_)) (by repeat (exact subPnil)) ?_
    rintro nn E H ⟨k, hk, rfl, rfl, rfl⟩
    dsimp only [List.cons_append, List.nil_append]
    refine AW.seq ?_
    refine AW.region ?_
    refine AO.op (O.lss rfl rfl rfl (by rfl)) rfl rfl rfl ?_
    refine AO.nil ?_
    refine AQ.thenN ?_
    refine AW.seq ?_
    refine AW.split rfl (fun h2 => ?_) (fun h2 => ?_) <;> (try simp only [decide_eq_true_eq, decide_eq_false_iff_not, beq_iff_eq, beq_eq_false_iff_ne, bne_iff_ne, bne_eq_false_iff_eq, Bool.not_eq_true', Bool.not_eq_false', Bool.not_eq_true, Bool.not_eq_false, ne_eq, Int.not_lt, Int.not_le, Bool.and_eq_true, Bool.or_eq_true, Bool.or_eq_false_iff, Bool.and_eq_false_imp, strOf_toList, Decidable.not_not] at h2)
    · skip
      have hk2 : k < ms.length := by omega
      obtain ⟨x, hx⟩ : ∃ x, x = mat ms k := ⟨_, rfl⟩
      have hra : ((msgsA ms).drop ((k : Int).toNat * 6)).take 6 = [.val (.int .i64 x.ty), .val (.int .i64 x.code), .val (.int .i64 x.id), roB x.tok, roO x.opts, roB x.pay] := by rw [hx]; exact getMs hk2 (by omega)
      refine AW.skip ?_
      refine AQ.thenN ?_
      refine AW.seq ?_
      refine AW.block ?_
      refine AW.seq ?_
      refine AW.region ?_
      refine AO.op (O.idxR rfl rfl rfl ⟨(by omega), (by omega)⟩) rfl rfl rfl ?_
      refine AO.op (O.loadRK rfl rfl (by exact hra) (by rfl)) rfl rfl rfl ?_
      refine AO.opB (O.alloc rfl (by (dsimp only [List.set, List.append, List.cons_append, List.nil_append, roB_cells, roI_cells, roO_cells, splice, ofConst, AV.cells, List.map, List.map_cons, List.map_nil, List.take, List.drop, Nat.zero_add, Nat.add_zero, Nat.reduceAdd, Nat.reduceMul, Nat.zero_mul, Value.cells, List.toList_toArray, zerosA, List.replicate, List.flatten, List.append_nil]; done)) (by rfl)) rfl rfl rfl ?_
      intro B8
      (refine AO.store (i := 0) rfl rfl rfl rfl rfl rfl (by rfl) (by rfl) (by rfl) (by (dsimp only [List.set, List.append, List.cons_append, List.nil_append, roB_cells, roI_cells, roO_cells, splice, ofConst, AV.cells, List.map, List.map_cons, List.map_nil, List.take, List.drop, Nat.zero_add, Nat.add_zero, Nat.reduceAdd, Nat.reduceMul, Nat.zero_mul, Value.cells, List.toList_toArray, zerosA, List.replicate, List.flatten, List.append_nil]; done)) (by (dsimp only [List.set, List.append, List.cons_append, List.nil_append, roB_cells, roI_cells, roO_cells, splice, ofConst, AV.cells, List.map, List.map_cons, List.map_nil, List.take, List.drop, Nat.zero_add, Nat.add_zero, Nat.reduceAdd, Nat.reduceMul, Nat.zero_mul, Value.cells, List.toList_toArray, zerosA, List.replicate, List.flatten, List.append_nil]; done)) ?_)
      refine AO.nil ?_
      refine AQ.thenN ?_
      refine AW.seq ?_
      refine AW.region ?_
      refine AO.op (O.loadK rfl rfl (by repeat (exact List.Mem.head _)) (by rfl) (by rfl)) rfl rfl rfl ?_
      refine AO.op (O.call rfl Try.func20 rfl rfl rfl (split_fn x)) rfl rfl rfl ?_
      refine AO.op (O.move rfl rfl) rfl rfl rfl ?_
      refine AO.op (O.extract rfl rfl rfl) rfl rfl rfl ?_
      refine AO.op (O.extract rfl rfl rfl) rfl rfl rfl ?_
      refine AO.op (O.extract rfl rfl rfl) rfl rfl rfl ?_
      refine AO.opB (O.alloc rfl (by (dsimp only [List.set, List.append, List.cons_append, List.nil_append, roB_cells, roI_cells, roO_cells, splice, ofConst, AV.cells, List.map, List.map_cons, List.map_nil, List.take, List.drop, Nat.zero_add, Nat.add_zero, Nat.reduceAdd, Nat.reduceMul, Nat.zero_mul, Value.cells, List.toList_toArray, zerosA, List.replicate, List.flatten, List.append_nil]; done)) (by rfl)) rfl rfl rfl ?_
      intro B9
      refine AO.opB (O.alloc rfl (by (dsimp only [List.set, List.append, List.cons_append, List.nil_append, roB_cells, roI_cells, roO_cells, splice, ofConst, AV.cells, List.map, List.map_cons, List.map_nil, List.take, List.drop, Nat.zero_add, Nat.add_zero, Nat.reduceAdd, Nat.reduceMul, Nat.zero_mul, Value.cells, List.toList_toArray, zerosA, List.replicate, List.flatten, List.append_nil]; done)) (by rfl)) rfl rfl rfl ?_
      intro B10
      (refine AO.store (i := 1) rfl rfl rfl rfl rfl rfl (by rfl) (by rfl) (by rfl) (by (dsimp only [List.set, List.append, List.cons_append, List.nil_append, roB_cells, roI_cells, roO_cells, splice, ofConst, AV.cells, List.map, List.map_cons, List.map_nil, List.take, List.drop, Nat.zero_add, Nat.add_zero, Nat.reduceAdd, Nat.reduceMul, Nat.zero_mul, Value.cells, List.toList_toArray, zerosA, List.replicate, List.flatten, List.append_nil]; done)) (by (dsimp only [List.set, List.append, List.cons_append, List.nil_append, roB_cells, roI_cells, roO_cells, splice, ofConst, AV.cells, List.map, List.map_cons, List.map_nil, List.take, List.drop, Nat.zero_add, Nat.add_zero, Nat.reduceAdd, Nat.reduceMul, Nat.zero_mul, Value.cells, List.toList_toArray, zerosA, List.replicate, List.flatten, List.append_nil]; done)) ?_)
      (refine AO.store (i := 0) rfl rfl rfl rfl rfl rfl (by rfl) (by rfl) (by rfl) (by (dsimp only [List.set, List.append, List.cons_append, List.nil_append, roB_cells, roI_cells, roO_cells, splice, ofConst, AV.cells, List.map, List.map_cons, List.map_nil, List.take, List.drop, Nat.zero_add, Nat.add_zero, Nat.reduceAdd, Nat.reduceMul, Nat.zero_mul, Value.cells, List.toList_toArray, zerosA, List.replicate, List.flatten, List.append_nil]; done)) (by (dsimp only [List.set, List.append, List.cons_append, List.nil_append, roB_cells, roI_cells, roO_cells, splice, ofConst, AV.cells, List.map, List.map_cons, List.map_nil, List.take, List.drop, Nat.zero_add, Nat.add_zero, Nat.reduceAdd, Nat.reduceMul, Nat.zero_mul, Value.cells, List.toList_toArray, zerosA, List.replicate, List.flatten, List.append_nil]; done)) ?_)
      refine AO.op (O.assign rfl rfl) rfl rfl rfl ?_
      refine AO.nil ?_
      refine AQ.thenN ?_
      refine AW.seq ?_
      refine AW.region ?_
      refine AO.op (O.loadK rfl rfl (by repeat (first | exact List.Mem.head _ | refine List.Mem.tail _ ?_)) (by rfl) (by rfl)) rfl rfl rfl ?_
      refine AO.op (O.call rfl Try.func21 rfl rfl rfl (rsplit_fn x)) rfl rfl rfl ?_
      refine AO.op (O.move rfl rfl) rfl rfl rfl ?_
      refine AO.op (O.extract rfl rfl rfl) rfl rfl rfl ?_
      refine AO.op (O.extract rfl rfl rfl) rfl rfl rfl ?_
      refine AO.op (O.extract rfl rfl rfl) rfl rfl rfl ?_
      refine AO.opB (O.alloc rfl (by (dsimp only [List.set, List.append, List.cons_append, List.nil_append, roB_cells, roI_cells, roO_cells, splice, ofConst, AV.cells, List.map, List.map_cons, List.map_nil, List.take, List.drop, Nat.zero_add, Nat.add_zero, Nat.reduceAdd, Nat.reduceMul, Nat.zero_mul, Value.cells, List.toList_toArray, zerosA, List.replicate, List.flatten, List.append_nil]; done)) (by rfl)) rfl rfl rfl ?_
      intro B11
      refine AO.opB (O.alloc rfl (by (dsimp only [List.set, List.append, List.cons_append, List.nil_append, roB_cells, roI_cells, roO_cells, splice, ofConst, AV.cells, List.map, List.map_cons, List.map_nil, List.take, List.drop, Nat.zero_add, Nat.add_zero, Nat.reduceAdd, Nat.reduceMul, Nat.zero_mul, Value.cells, List.toList_toArray, zerosA, List.replicate, List.flatten, List.append_nil]; done)) (by rfl)) rfl rfl rfl ?_
      intro B12
      (refine AO.store (i := 1) rfl rfl rfl rfl rfl rfl (by rfl) (by rfl) (by rfl) (by (dsimp only [List.set, List.append, List.cons_append, List.nil_append, roB_cells, roI_cells, roO_cells, splice, ofConst, AV.cells, List.map, List.map_cons, List.map_nil, List.take, List.drop, Nat.zero_add, Nat.add_zero, Nat.reduceAdd, Nat.reduceMul, Nat.zero_mul, Value.cells, List.toList_toArray, zerosA, List.replicate, List.flatten, List.append_nil]; done)) (by (dsimp only [List.set, List.append, List.cons_append, List.nil_append, roB_cells, roI_cells, roO_cells, splice, ofConst, AV.cells, List.map, List.map_cons, List.map_nil, List.take, List.drop, Nat.zero_add, Nat.add_zero, Nat.reduceAdd, Nat.reduceMul, Nat.zero_mul, Value.cells, List.toList_toArray, zerosA, List.replicate, List.flatten, List.append_nil]; done)) ?_)
      (refine AO.store (i := 0) rfl rfl rfl rfl rfl rfl (by rfl) (by rfl) (by rfl) (by (dsimp only [List.set, List.append, List.cons_append, List.nil_append, roB_cells, roI_cells, roO_cells, splice, ofConst, AV.cells, List.map, List.map_cons, List.map_nil, List.take, List.drop, Nat.zero_add, Nat.add_zero, Nat.reduceAdd, Nat.reduceMul, Nat.zero_mul, Value.cells, List.toList_toArray, zerosA, List.replicate, List.flatten, List.append_nil]; done)) (by (dsimp only [List.set, List.append, List.cons_append, List.nil_append, roB_cells, roI_cells, roO_cells, splice, ofConst, AV.cells, List.map, List.map_cons, List.map_nil, List.take, List.drop, Nat.zero_add, Nat.add_zero, Nat.reduceAdd, Nat.reduceMul, Nat.zero_mul, Value.cells, List.toList_toArray, zerosA, List.replicate, List.flatten, List.append_nil]; done)) ?_)
      refine AO.op (O.assign rfl rfl) rfl rfl rfl ?_
      refine AO.nil ?_
      refine AQ.thenN ?_
      refine AW.seq ?_
      refine AW.region ?_
      refine AO.op (O.move rfl rfl) rfl rfl rfl ?_
      refine AO.op (O.move rfl rfl) rfl rfl rfl ?_
      refine AO.op (O.neq rfl rfl rfl (by exact bne_eq_false_iff_eq.2 (by omega))) rfl rfl rfl ?_
      refine AO.op (O.move rfl rfl) rfl rfl rfl ?_
      refine AO.opG rfl rfl rfl (fun hp => O.loadK rfl rfl (by repeat (first | exact List.Mem.head _ | refine List.Mem.tail _ ?_)) (by rfl) (by rfl)) ?_
      refine AO.opG rfl rfl rfl (fun hp => O.loadK rfl rfl (by repeat (first | exact List.Mem.head _ | refine List.Mem.tail _ ?_)) (by rfl) (by rfl)) ?_
      refine AO.opG rfl rfl rfl (fun hp => OpW.force 61 rfl (by exact hp) (OpW.force 62 rfl (by exact hp) (O.call rfl Try.func22 rfl rfl rfl (same_fn (splitR x).1 (splitR x).1 (splitR_len x).1)))) ?_
      refine AO.opG rfl rfl rfl (fun hp => OpW.force 63 rfl (by exact hp) (O.not rfl rfl (by rfl))) ?_
      refine AO.op (O.pickOr rfl rfl rfl rfl (fun h => by exact congrArg (fun b => !b) h)) rfl rfl rfl ?_
      refine AO.op (O.move rfl rfl) rfl rfl rfl ?_
      refine AO.opG rfl rfl rfl (fun hp => O.loadK rfl rfl (by repeat (first | exact List.Mem.head _ | refine List.Mem.tail _ ?_)) (by rfl) (by rfl)) ?_
      refine AO.opG rfl rfl rfl (fun hp => O.loadK rfl rfl (by repeat (exact List.Mem.head _)) (by rfl) (by rfl)) ?_
      refine AO.opG rfl rfl rfl (fun hp => OpW.force 67 rfl (by exact hp) (OpW.force 68 rfl (by exact hp) (O.call rfl Try.func22 rfl rfl rfl (same_fn (splitR x).2.1 (splitR x).2.1 (splitR_len x).2)))) ?_
      refine AO.opG rfl rfl rfl (fun hp => OpW.force 69 rfl (by exact hp) (O.not rfl rfl (by rfl))) ?_
      refine AO.op (O.pickOr rfl rfl rfl rfl (fun h => by exact congrArg (fun b => !b) h)) rfl rfl rfl ?_
      refine AO.nil ?_
      refine AQ.thenN ?_
      refine AW.split rfl (fun h3 => ?_) (fun h3 => ?_)
      · skip
        simp at h3
      · skip
        refine AW.skip ?_
        refine AQ.blockN ?_
        refine AQ.thenN ?_
        refine AW.region ?_
        refine AO.op (O.add rfl rfl rfl (by exact wI64 (by omega))) rfl rfl rfl ?_
        refine AO.op (O.move rfl rfl) rfl rfl rfl ?_
        refine AO.nil ?_
        refine AQ.loopKN _ _ _ (by omega) (⟨k + 1, by omega, rfl, rfl, rfl⟩) (by repeat (first | exact envNil | refine envCons rfl ?_)) (by repeat (first | exact envNil | refine envCons rfl ?_)) (by repeat (exact subPnil))
    · skip
      refine AW.exit ?_
      refine AQ.thenX ?_
      refine AQ.loopX ?_
      refine AQ.blockX rfl ?_
      refine AQ.thenN ?_
      refine AW.seq ?_
      refine AW.region ?_
      refine AO.op (O.call rfl Try.func12 rfl rfl rfl (awake30_fn)) rfl rfl rfl ?_
      refine AO.op (O.assign rfl rfl) rfl rfl rfl ?_
      refine AO.nil ?_
      refine AQ.thenN ?_
      refine AW.ret ?_
      refine AQ.ret1 rfl rfl ⟨_, List.nil_sublist _, .nil⟩ (⟨rfl, rfl⟩)
end Go.Proofs.Ytbmndjjaaeambaa.By

/-
  Layer 30: Join, plainly and walked.
-/
namespace Go.Proofs.Ytbmndjjaaeambaa.By
open Go.RowKit L A
set_option linter.unusedVariables false
set_option linter.unusedSimpArgs false
attribute [local irreducible] AW AQ AO
/-- Where an option goes. -/
def posO (os : List Opt) (n : Int) : Nat → Nat
  | 0 => 0
  | i + 1 => if n < (oat os i).num then posO os n i else i + 1
theorem posO_le (os : List Opt) (n : Int) : ∀ i, posO os n i ≤ i
  | 0 => Nat.le_refl _
  | i + 1 => by
    rw [posO]
    split
    · have := posO_le os n i; omega
    · exact Nat.le_refl _
def insO (os : List Opt) (o : Opt) : List Opt := os.take (posO os o.num os.length) ++ ([o] ++ os.drop (posO os o.num os.length))
theorem insO_len (os : List Opt) (o : Opt) : (insO os o).length = os.length + 1 := by
  have := posO_le os o.num os.length
  simp only [insO, List.length_append, List.length_take, List.length_drop, List.length_cons, List.length_nil]; omega
def insAll (l : List Opt) : List Opt := l.foldl insO []
theorem insAll_snoc (l : List Opt) (o : Opt) : insAll (l ++ [o]) = insO (insAll l) o := by unfold insAll; rw [List.foldl_append]; rfl
theorem insAll_len (l : List Opt) : (insAll l).length = l.length := by
  have : ∀ (l : List Opt) (a : List Opt), (l.foldl insO a).length = a.length + l.length := by
    intro l
    induction l with
    | nil => intro a; simp
    | cons o l ih => intro a; rw [List.foldl_cons, ih, insO_len, List.length_cons]; omega
  have := this l []
  rw [insAll, this]; simp
def jo (o : Opt) : Bool := decide (cls o.num = 2) && decide (o.num ≠ 9)
def outJ (os : List Opt) : List Opt := os.filter jo
theorem outJ_snoc (os : List Opt) (o : Opt) : outJ (os ++ [o]) = if cls o.num = 2 ∧ o.num ≠ 9 then outJ os ++ [o] else outJ os := by
  unfold outJ
  rw [List.filter_append]
  by_cases h : cls o.num = 2 ∧ o.num ≠ 9
  · rw [if_pos h]; simp [jo, h.1, h.2]
  · rw [if_neg h, List.filter_cons_of_neg (by unfold jo; simpa using h)]; simp
theorem outJ_len (os : List Opt) : (outJ os).length ≤ os.length := List.length_filter_le _ _
def clsB (os : List Opt) : Bool := os.any fun o => decide (cls o.num = 2)
def joinR (outer inner : Msg) : Msg × Int :=
  if rq inner.code = true ∨ rs inner.code = true then
    (if rq inner.code = rq outer.code ∧ rs inner.code = rs outer.code then
      (if clsB inner.opts = true then (Msg.none, 4) else (⟨outer.ty, inner.code, outer.id, outer.tok, insAll (inner.opts ++ outJ outer.opts), inner.pay⟩, 0))
    else (Msg.none, 18))
  else (Msg.none, 1)
abbrev res2 (r : Msg × Int) : AV := .tup [aggM r.1, .val (.int .i64 r.2)]
theorem ret2M {r : Msg × Int} {a : Msg} {e : Int} (h : r = (a, e)) : Is (res2 r) (.tup [aggM a, .val (.int .i64 e)]) [] := by rw [h]; exact ⟨rfl, rfl⟩
def TameM (m : Msg) : Prop := m.tok.length ≤ 4294967296 ∧ m.pay.length ≤ 4294967296 ∧ m.opts.length ≤ 100000 ∧ ∀ k, k < m.opts.length → (oat m.opts k).val.length ≤ 4294967296
theorem optsA_take (os : List Opt) (n : Nat) : (optsA os).take (n * 2) = optsA (os.take n) := flat_take cellsO_len os n
theorem optsA_drop (os : List Opt) (n : Nat) : (optsA os).drop (n * 2) = optsA (os.drop n) := flat_drop cellsO_len os n
theorem optsA_two (n : Int) (v : List UInt8) : optsA [⟨n, v⟩] = [.val (.int .i64 n), roB v] := rfl
theorem one_part {xs : List AV} (h : xs.all AV.one = true) (a b : Nat) : ((xs.drop a).take b).all AV.one = true := by
  rw [List.all_eq_true] at h ⊢
  exact fun x hx => h x (List.mem_of_mem_drop (List.mem_of_mem_take hx))
theorem one_two {n : Int} {v : List UInt8} {ys : List AV} (h : ys.all AV.one = true) : (AV.val (.int .i64 n) :: roB v :: ys).all AV.one = true := by
  show (true && (true && ys.all AV.one)) = true
  rw [h]; rfl
theorem CoeL.of_eq {xs ys : List AV} (h : xs = ys) : CoeL xs ys := h ▸ CoeL.refl
theorem ins_cells {os : List Opt} {o : Opt} {p a b c : Nat} (hp : p = posO os o.num os.length) (ha : a = p * 2) (hb : b = (os.length - p) * 2) (hc : c = p * 2) :
    (optsA os).take a ++ (.val (.int .i64 o.num) :: roB o.val :: ((optsA os).drop c).take b) = optsA (insO os o) := by
  subst ha
  subst hb
  subst hc
  rw [insO, ← hp, optsA_app, optsA_app, ← optsA_take, ← optsA_drop, List.take_of_length_le (l := (optsA os).drop (p * 2)) (by rw [List.length_drop, optsA_len]; omega)]
  rfl
theorem ins_cells1 {os : List Opt} {o : Opt} {p a : Nat} (hp : p = posO os o.num os.length) (ha : a = p * 2) (hb : p = os.length) :
    (optsA os).take a ++ [.val (.int .i64 o.num), roB o.val] = optsA (insO os o) := by
  have := ins_cells (b := 0) (c := p * 2) hp ha (by omega) rfl
  simpa using this
set_option maxHeartbeats 8000000 in
theorem join_fn (outer inner : Msg) (ho : TameM outer) (hi : TameM inner) : Sp Try.prog 25 [aggM outer, aggM inner] [] (Is (res2 (joinR outer inner))) := by
  obtain ⟨a1, a2, a3, a4⟩ := ho
  obtain ⟨b1, b2, b3, b4⟩ := hi
  refine Sp.enter Try.func25 rfl _ Try.ntmps25 rfl (fun w0 R0 => ?_)
  refine AW.seq ?_
  refine AW.region ?_
  refine AO.opB (O.box rfl rfl rfl rfl rfl) rfl rfl rfl ?_
  intro B1
  refine AO.opB (O.box rfl rfl rfl rfl rfl) rfl rfl rfl ?_
  intro B2
  refine AO.opB (O.alloc rfl (by (dsimp only [List.set, List.append, List.cons_append, List.nil_append, roB_cells, roI_cells, roO_cells, splice, ofConst, AV.cells, List.map, List.map_cons, List.map_nil, List.take, List.drop, Nat.zero_add, Nat.add_zero, Nat.reduceAdd, Nat.reduceMul, Nat.zero_mul, Value.cells, List.toList_toArray, zerosA, List.replicate, List.flatten, List.append_nil]; done)) (by rfl)) rfl rfl rfl ?_
  intro B3
  refine AO.op (O.assign rfl rfl) rfl rfl rfl ?_
  refine AO.nil ?_
  refine AQ.thenN ?_
  refine AW.seq ?_
  refine AW.seq ?_
  refine AW.region ?_
  refine AO.op (O.fieldAddr rfl rfl) rfl rfl rfl ?_
  refine AO.op (O.load rfl rfl (by repeat (first | exact List.Mem.head _ | refine List.Mem.tail _ ?_)) (by rfl)) rfl rfl rfl ?_
  refine AO.op (O.call rfl Try.func42 rfl rfl rfl (sreq_fn inner.code)) rfl rfl rfl ?_
  refine AO.op (O.not rfl rfl (by rfl)) rfl rfl rfl ?_
  refine AO.op (O.move rfl rfl) rfl rfl rfl ?_
  refine AO.opG rfl rfl rfl (fun hp => O.fieldAddr rfl rfl) ?_
  refine AO.opG rfl rfl rfl (fun hp => OpW.force 20 rfl (by exact hp) (O.load rfl rfl (by repeat (first | exact List.Mem.head _ | refine List.Mem.tail _ ?_)) (by rfl))) ?_
  refine AO.opG rfl rfl rfl (fun hp => OpW.force 21 rfl (by exact hp) (O.call rfl Try.func43 rfl rfl rfl (sresp_fn inner.code))) ?_
  refine AO.opG rfl rfl rfl (fun hp => OpW.force 22 rfl (by exact hp) (O.not rfl rfl (by rfl))) ?_
  refine AO.op (O.pickAnd rfl rfl rfl rfl (fun h => by exact h)) rfl rfl rfl ?_
  refine AO.nil ?_
  refine AQ.thenN ?_
  refine AW.split rfl (fun h => ?_) (fun h => ?_) <;> (try simp only [decide_eq_true_eq, decide_eq_false_iff_not, beq_iff_eq, beq_eq_false_iff_ne, bne_iff_ne, bne_eq_false_iff_eq, Bool.not_eq_true', Bool.not_eq_false', Bool.not_eq_true, Bool.not_eq_false, ne_eq, Int.not_lt, Int.not_le, Bool.and_eq_true, Bool.or_eq_true, Bool.or_eq_false_iff, Bool.and_eq_false_imp, strOf_toList, Decidable.not_not] at h)
  · skip
    have e : joinR outer inner = (Msg.none, 1) := if_neg (by rw [h.1, h.2]; simp)
    refine AW.seq ?_
    refine AW.region ?_
    refine AO.op (O.build rfl rfl rfl (by rfl)) rfl rfl rfl ?_
    (refine AO.store (i := 0) rfl rfl rfl rfl rfl rfl (by rfl) (by rfl) (by rfl) (by (dsimp only [List.set, List.append, List.cons_append, List.nil_append, roB_cells, roI_cells, roO_cells, splice, ofConst, AV.cells, List.map, List.map_cons, List.map_nil, List.take, List.drop, Nat.zero_add, Nat.add_zero, Nat.reduceAdd, Nat.reduceMul, Nat.zero_mul, Value.cells, List.toList_toArray, zerosA, List.replicate, List.flatten, List.append_nil]; done)) (by (dsimp only [List.set, List.append, List.cons_append, List.nil_append, roB_cells, roI_cells, roO_cells, splice, ofConst, AV.cells, List.map, List.map_cons, List.map_nil, List.take, List.drop, Nat.zero_add, Nat.add_zero, Nat.reduceAdd, Nat.reduceMul, Nat.zero_mul, Value.cells, List.toList_toArray, zerosA, List.replicate, List.flatten, List.append_nil]; done)) ?_)
    refine AO.op (O.assign rfl rfl) rfl rfl rfl ?_
    refine AO.nil ?_
    refine AQ.thenN ?_
    refine AW.ret ?_
    refine AQ.thenR ?_
    refine FnQ.coe (AQ.retCT rfl rfl rfl (by repeat (exact List.Mem.head _)) (by (dsimp only [List.set, List.append, List.cons_append, List.nil_append, roB_cells, roI_cells, roO_cells, splice, ofConst, AV.cells, List.map, List.map_cons, List.map_nil, List.take, List.drop, Nat.zero_add, Nat.add_zero, Nat.reduceAdd, Nat.reduceMul, Nat.zero_mul, Value.cells, List.toList_toArray, zerosA, List.replicate, List.flatten, List.append_nil]; done)) (by rfl) ⟨_, List.nil_sublist _, .nil⟩ ⟨rfl, rfl⟩) (Coe.tup (by (repeat (first | exact CoeL.nil | refine CoeL.cons Coe.rfl ?_ | refine CoeL.cons Coe.nil ?_ | refine CoeL.cons (Coe.agg ?_) ?_)); done)) (ret2M e)
  · skip
    have hc : rq inner.code = true ∨ rs inner.code = true := by cases hq : rq inner.code <;> simp_all
    refine AW.skip ?_
    refine AQ.thenN ?_
    refine AW.seq ?_
    refine AW.seq ?_
    refine AW.regionD 16 (by kernel_rfl) (by kernel_rfl) ?_
    simp only [List.take_succ_cons, List.take_zero, List.drop_succ_cons, List.drop_zero]
    refine FA.op (O.fieldAddr rfl rfl) rfl rfl rfl rfl ?_
    refine FA.op (O.load rfl rfl (by repeat (first | exact List.Mem.head _ | refine List.Mem.tail _ ?_)) (by rfl)) rfl rfl rfl rfl ?_
    refine FA.op (O.call rfl Try.func42 rfl rfl rfl (sreq_fn inner.code)) rfl rfl rfl rfl ?_
    refine FA.op (O.fieldAddr rfl rfl) rfl rfl rfl rfl ?_
    refine FA.op (O.load rfl rfl (by repeat (first | exact List.Mem.head _ | refine List.Mem.tail _ ?_)) (by rfl)) rfl rfl rfl rfl ?_
    refine FA.op (O.call rfl Try.func42 rfl rfl rfl (sreq_fn outer.code)) rfl rfl rfl rfl ?_
    refine FA.op (O.neqB rfl rfl rfl (by rfl)) rfl rfl rfl rfl ?_
    refine FA.op (O.move rfl rfl) rfl rfl rfl rfl ?_
    refine FA.opG rfl rfl rfl rfl (fun hp => O.fieldAddr rfl rfl) ?_
    refine FA.opG rfl rfl rfl rfl (fun hp => OpW.force 34 rfl (by exact hp) (O.load rfl rfl (by repeat (first | exact List.Mem.head _ | refine List.Mem.tail _ ?_)) (by rfl))) ?_
    refine FA.opG rfl rfl rfl rfl (fun hp => OpW.force 35 rfl (by exact hp) (O.call rfl Try.func43 rfl rfl rfl (sresp_fn inner.code))) ?_
    refine FA.opG rfl rfl rfl rfl (fun hp => O.fieldAddr rfl rfl) ?_
    refine FA.opG rfl rfl rfl rfl (fun hp => OpW.force 37 rfl (by exact hp) (O.load rfl rfl (by repeat (first | exact List.Mem.head _ | refine List.Mem.tail _ ?_)) (by rfl))) ?_
    refine FA.opG rfl rfl rfl rfl (fun hp => OpW.force 38 rfl (by exact hp) (O.call rfl Try.func43 rfl rfl rfl (sresp_fn outer.code))) ?_
    refine FA.opG rfl rfl rfl rfl (fun hp => OpW.force 36 rfl (by exact hp) (OpW.force 39 rfl (by exact hp) (O.neqB rfl rfl rfl (by rfl)))) ?_
    refine FA.op (O.pickOr rfl rfl rfl rfl (fun h => by exact congrArg (fun b => !b) h)) rfl rfl rfl rfl ?_
    refine FA.nil ?_
    simp only [chosen, List.nil_append, List.cons_append, List.append_nil]
    refine AO.nil ?_
    refine AQ.thenN ?_
    refine AW.split rfl (fun hm => ?_) (fun hm => ?_) <;> (try simp only [decide_eq_true_eq, decide_eq_false_iff_not, beq_iff_eq, beq_eq_false_iff_ne, bne_iff_ne, bne_eq_false_iff_eq, Bool.not_eq_true', Bool.not_eq_false', Bool.not_eq_true, Bool.not_eq_false, ne_eq, Int.not_lt, Int.not_le, Bool.and_eq_true, Bool.or_eq_true, Bool.or_eq_false_iff, Bool.and_eq_false_imp, strOf_toList, Decidable.not_not] at hm)
    · skip
      have e : joinR outer inner = (Msg.none, 18) := by
        rw [joinR, if_pos hc, if_neg]
        rintro ⟨k1, k2⟩
        rw [k1, k2] at hm
        simp at hm
      refine AW.seq ?_
      refine AW.region ?_
      refine AO.op (O.build rfl rfl rfl (by rfl)) rfl rfl rfl ?_
      (refine AO.store (i := 0) rfl rfl rfl rfl rfl rfl (by rfl) (by rfl) (by rfl) (by (dsimp only [List.set, List.append, List.cons_append, List.nil_append, roB_cells, roI_cells, roO_cells, splice, ofConst, AV.cells, List.map, List.map_cons, List.map_nil, List.take, List.drop, Nat.zero_add, Nat.add_zero, Nat.reduceAdd, Nat.reduceMul, Nat.zero_mul, Value.cells, List.toList_toArray, zerosA, List.replicate, List.flatten, List.append_nil]; done)) (by (dsimp only [List.set, List.append, List.cons_append, List.nil_append, roB_cells, roI_cells, roO_cells, splice, ofConst, AV.cells, List.map, List.map_cons, List.map_nil, List.take, List.drop, Nat.zero_add, Nat.add_zero, Nat.reduceAdd, Nat.reduceMul, Nat.zero_mul, Value.cells, List.toList_toArray, zerosA, List.replicate, List.flatten, List.append_nil]; done)) ?_)
      refine AO.op (O.assign rfl rfl) rfl rfl rfl ?_
      refine AO.nil ?_
      refine AQ.thenN ?_
      refine AW.ret ?_
      refine AQ.thenR ?_
      refine FnQ.coe (AQ.retCT rfl rfl rfl (by repeat (exact List.Mem.head _)) (by (dsimp only [List.set, List.append, List.cons_append, List.nil_append, roB_cells, roI_cells, roO_cells, splice, ofConst, AV.cells, List.map, List.map_cons, List.map_nil, List.take, List.drop, Nat.zero_add, Nat.add_zero, Nat.reduceAdd, Nat.reduceMul, Nat.zero_mul, Value.cells, List.toList_toArray, zerosA, List.replicate, List.flatten, List.append_nil]; done)) (by rfl) ⟨_, List.nil_sublist _, .nil⟩ ⟨rfl, rfl⟩) (Coe.tup (by (repeat (first | exact CoeL.nil | refine CoeL.cons Coe.rfl ?_ | refine CoeL.cons Coe.nil ?_ | refine CoeL.cons (Coe.agg ?_) ?_)); done)) (ret2M e)
    · skip
      have hm2 : rq inner.code = rq outer.code ∧ rs inner.code = rs outer.code := by simpa using hm
      refine AW.skip ?_
      refine AQ.thenN ?_
      refine AW.seq ?_
      refine AW.regionD 14 (by kernel_rfl) (by kernel_rfl) ?_
      simp only [List.take_succ_cons, List.take_zero, List.drop_succ_cons, List.drop_zero]
      refine FA.op (O.fieldAddr rfl rfl) rfl rfl rfl rfl ?_
      refine FA.op (O.load rfl rfl (by repeat (first | exact List.Mem.head _ | refine List.Mem.tail _ ?_)) (by rfl)) rfl rfl rfl rfl ?_
      refine FA.op (O.fieldAddr rfl rfl) rfl rfl rfl rfl ?_
      refine FA.op (O.load rfl rfl (by repeat (first | exact List.Mem.head _ | refine List.Mem.tail _ ?_)) (by rfl)) rfl rfl rfl rfl ?_
      refine FA.op (O.fieldAddr rfl rfl) rfl rfl rfl rfl ?_
      refine FA.op (O.load rfl rfl (by repeat (first | exact List.Mem.head _ | refine List.Mem.tail _ ?_)) (by rfl)) rfl rfl rfl rfl ?_
      refine FA.op (OpW.frzR (O.appendNil rfl (by rfl) (by rfl) rfl rfl (by exact SrcA.ro TyD.ax (by (simp; done)) (Nat.le_of_ble_eq_true rfl)) (by (simp [AV.cells, AV.one, *]; done)) (by (unfold maxLen; omega)) (by omega))) rfl rfl rfl rfl ?_
      refine FA.op (O.fieldAddr rfl rfl) rfl rfl rfl rfl ?_
      refine FA.op (O.load rfl rfl (by repeat (first | exact List.Mem.head _ | refine List.Mem.tail _ ?_)) (by rfl)) rfl rfl rfl rfl ?_
      refine FA.op (O.fieldAddr rfl rfl) rfl rfl rfl rfl ?_
      refine FA.op (O.load rfl rfl (by repeat (first | exact List.Mem.head _ | refine List.Mem.tail _ ?_)) (by rfl)) rfl rfl rfl rfl ?_
      refine FA.op (OpW.frzR (O.appendNil rfl (by rfl) (by rfl) rfl rfl (by exact SrcA.ro TyD.ax (by (simp; done)) (Nat.le_of_ble_eq_true rfl)) (by (simp [AV.cells, AV.one, *]; done)) (by (unfold maxLen; omega)) (by omega))) rfl rfl rfl rfl ?_
      refine FA.op (O.build rfl rfl rfl (by rfl)) rfl rfl rfl rfl ?_
      refine FA.opN (O.alloc rfl (by (dsimp only [List.set, List.append, List.cons_append, List.nil_append, roB_cells, roI_cells, roO_cells, splice, ofConst, AV.cells, List.map, List.map_cons, List.map_nil, List.take, List.drop, Nat.zero_add, Nat.add_zero, Nat.reduceAdd, Nat.reduceMul, Nat.zero_mul, Value.cells, List.toList_toArray, zerosA, List.replicate, List.flatten, List.append_nil]; done)) (by rfl)) rfl rfl rfl rfl ?_
      refine FA.nil ?_
      simp only [chosen, List.nil_append, List.cons_append, List.append_nil]
      rintro _ _ ⟨B4, rfl, rfl⟩
      simp only [List.cons_append, List.nil_append]
      (refine AO.store (i := 0) rfl rfl rfl rfl rfl rfl (by rfl) (by rfl) (by rfl) (by (dsimp only [List.set, List.append, List.cons_append, List.nil_append, roB_cells, roI_cells, roO_cells, splice, ofConst, AV.cells, List.map, List.map_cons, List.map_nil, List.take, List.drop, Nat.zero_add, Nat.add_zero, Nat.reduceAdd, Nat.reduceMul, Nat.zero_mul, Value.cells, List.toList_toArray, zerosA, List.replicate, List.flatten, List.append_nil]; done)) (by (dsimp only [List.set, List.append, List.cons_append, List.nil_append, roB_cells, roI_cells, roO_cells, splice, ofConst, AV.cells, List.map, List.map_cons, List.map_nil, List.take, List.drop, Nat.zero_add, Nat.add_zero, Nat.reduceAdd, Nat.reduceMul, Nat.zero_mul, Value.cells, List.toList_toArray, zerosA, List.replicate, List.flatten, List.append_nil]; done)) ?_)
      refine AO.nil ?_
      refine AQ.thenN ?_
      refine AW.seq ?_
      refine AW.region ?_
      refine AO.op (O.assign rfl rfl) rfl rfl rfl ?_
      refine AO.nil ?_
      refine AQ.thenN ?_
      refine AW.seq ?_
      refine AW.seq ?_
      refine AW.region ?_
      refine AO.op (O.fieldAddr rfl rfl) rfl rfl rfl ?_
      refine AO.op (O.load rfl rfl (by repeat (first | exact List.Mem.head _ | refine List.Mem.tail _ ?_)) (by rfl)) rfl rfl rfl ?_
      refine AO.op (O.lenR rfl rfl) rfl rfl rfl ?_
      refine AO.op (O.move rfl rfl) rfl rfl rfl ?_
      refine AO.nil ?_
      refine AQ.thenN ?_
      refine AW.block ?_
      refine AW.g ?_
      refine G.nilRow 62 2 ?_
      refine AW.u ?_
      refine AW.loopK [(2, _), (4, _), (6, _), (57, _), (58, _)] (fun nn E H => ∃ (k : Nat) (V : Value), (k ≤ inner.opts.length) ∧ (V.oneCell' = true) ∧ (clsB (inner.opts.take k) = false) ∧ nn = inner.opts.length - k ∧ E = [(7, .val V), (59, .val (.int .i64 (k : Int)))] ∧ H = [.row V 62 2 (inner.opts.take k).length (optsA (inner.opts.take k)), .blk B4 29 6 [.val (.int .i64 outer.ty), .val (.int .i64 inner.code), .val (.int .i64 outer.id), roB outer.tok, .val (.slice none 0 0), roB inner.pay], .blk B3 29 6 [.val (.int .i64 0), .val (.int .i64 0), .val (.int .i64 0), .val (.slice none 0 0), .val (.slice none 0 0), .val (.slice none 0 0)], .blk B1 29 6 [.val (.int .i64 outer.ty), .val (.int .i64 outer.code), .val (.int .i64 outer.id), roB outer.tok, roO outer.opts, roB outer.pay]]) _ (⟨0, _, by omega, rfl, rfl, rfl, rfl, rfl⟩) (by repeat (first | exact envNil | refine envCons rfl ?_)) (by repeat (first | exact envNil | refine envCons rfl ?_)) (by repeat (first | exact subPnil | refine subPcons 0 rfl ?_ | refine subPcons 1 rfl ?_)) ?_
      rintro nn E H ⟨k, V, hk, hV, hb, rfl, rfl, rfl⟩
      dsimp only [List.cons_append, List.nil_append]
      have hlk : (inner.opts.take k).length = k := by rw [List.length_take]; omega
      refine AW.seq ?_
      refine AW.region ?_
      refine AO.op (O.lss rfl rfl rfl (by rfl)) rfl rfl rfl ?_
      refine AO.nil ?_
      refine AQ.thenN ?_
      refine AW.seq ?_
      refine AW.split rfl (fun h2 => ?_) (fun h2 => ?_) <;> (try simp only [decide_eq_true_eq, decide_eq_false_iff_not, beq_iff_eq, beq_eq_false_iff_ne, bne_iff_ne, bne_eq_false_iff_eq, Bool.not_eq_true', Bool.not_eq_false', Bool.not_eq_true, Bool.not_eq_false, ne_eq, Int.not_lt, Int.not_le, Bool.and_eq_true, Bool.or_eq_true, Bool.or_eq_false_iff, Bool.and_eq_false_imp, strOf_toList, Decidable.not_not] at h2)
      · skip
        have hkk : k < inner.opts.length := by omega
        have hv4 := b4 k hkk
        have hts : inner.opts.take (k + 1) = inner.opts.take k ++ [oat inner.opts k] := take_snoc Opt.none hkk
        refine AW.skip ?_
        refine AQ.thenN ?_
        refine AW.seq ?_
        refine AW.block ?_
        refine AW.seq ?_
        refine AW.region ?_
        refine AO.op (O.idxR rfl rfl rfl ⟨(by omega), (by omega)⟩) rfl rfl rfl ?_
        refine AO.op (O.loadRK rfl rfl (by exact getO (by omega) (by omega)) (by rfl)) rfl rfl rfl ?_
        refine AO.opB (O.alloc rfl (by (dsimp only [List.set, List.append, List.cons_append, List.nil_append, roB_cells, roI_cells, roO_cells, splice, ofConst, AV.cells, List.map, List.map_cons, List.map_nil, List.take, List.drop, Nat.zero_add, Nat.add_zero, Nat.reduceAdd, Nat.reduceMul, Nat.zero_mul, Value.cells, List.toList_toArray, zerosA, List.replicate, List.flatten, List.append_nil]; done)) (by rfl)) rfl rfl rfl ?_
        intro B5
        (refine AO.store (i := 0) rfl rfl rfl rfl rfl rfl (by rfl) (by rfl) (by rfl) (by (dsimp only [List.set, List.append, List.cons_append, List.nil_append, roB_cells, roI_cells, roO_cells, splice, ofConst, AV.cells, List.map, List.map_cons, List.map_nil, List.take, List.drop, Nat.zero_add, Nat.add_zero, Nat.reduceAdd, Nat.reduceMul, Nat.zero_mul, Value.cells, List.toList_toArray, zerosA, List.replicate, List.flatten, List.append_nil]; done)) (by (dsimp only [List.set, List.append, List.cons_append, List.nil_append, roB_cells, roI_cells, roO_cells, splice, ofConst, AV.cells, List.map, List.map_cons, List.map_nil, List.take, List.drop, Nat.zero_add, Nat.add_zero, Nat.reduceAdd, Nat.reduceMul, Nat.zero_mul, Value.cells, List.toList_toArray, zerosA, List.replicate, List.flatten, List.append_nil]; done)) ?_)
        refine AO.nil ?_
        refine AQ.thenN ?_
        refine AW.seq ?_
        refine AW.seq ?_
        refine AW.region ?_
        refine AO.op (O.fieldAddr rfl rfl) rfl rfl rfl ?_
        refine AO.op (O.load rfl rfl (by repeat (exact List.Mem.head _)) (by rfl)) rfl rfl rfl ?_
        refine AO.op (O.call rfl Try.func9 rfl rfl rfl (class_fn _)) rfl rfl rfl ?_
        refine AO.op (O.eql rfl rfl rfl (by rfl)) rfl rfl rfl ?_
        refine AO.nil ?_
        refine AQ.thenN ?_
        refine AW.split rfl (fun h3 => ?_) (fun h3 => ?_) <;> (try simp only [decide_eq_true_eq, decide_eq_false_iff_not, beq_iff_eq, beq_eq_false_iff_ne, bne_iff_ne, bne_eq_false_iff_eq, Bool.not_eq_true', Bool.not_eq_false', Bool.not_eq_true, Bool.not_eq_false, ne_eq, Int.not_lt, Int.not_le, Bool.and_eq_true, Bool.or_eq_true, Bool.or_eq_false_iff, Bool.and_eq_false_imp, strOf_toList, Decidable.not_not] at h3)
        · skip
          have e : joinR outer inner = (Msg.none, 4) := by
            rw [joinR, if_pos hc, if_pos hm2, if_pos]
            exact List.any_eq_true.2 ⟨oat inner.opts k, getD_mem _ hkk, by simpa using h3⟩
          refine AW.seq ?_
          refine AW.region ?_
          refine AO.op (O.build rfl rfl rfl (by rfl)) rfl rfl rfl ?_
          (refine AO.store (i := 3) rfl rfl rfl rfl rfl rfl (by rfl) (by rfl) (by rfl) (by (dsimp only [List.set, List.append, List.cons_append, List.nil_append, roB_cells, roI_cells, roO_cells, splice, ofConst, AV.cells, List.map, List.map_cons, List.map_nil, List.take, List.drop, Nat.zero_add, Nat.add_zero, Nat.reduceAdd, Nat.reduceMul, Nat.zero_mul, Value.cells, List.toList_toArray, zerosA, List.replicate, List.flatten, List.append_nil]; done)) (by (dsimp only [List.set, List.append, List.cons_append, List.nil_append, roB_cells, roI_cells, roO_cells, splice, ofConst, AV.cells, List.map, List.map_cons, List.map_nil, List.take, List.drop, Nat.zero_add, Nat.add_zero, Nat.reduceAdd, Nat.reduceMul, Nat.zero_mul, Value.cells, List.toList_toArray, zerosA, List.replicate, List.flatten, List.append_nil]; done)) ?_)
          refine AO.op (O.assign rfl rfl) rfl rfl rfl ?_
          refine AO.nil ?_
          refine AQ.thenN ?_
          refine AW.ret ?_
          refine AQ.thenR ?_
          refine AQ.blockR ?_
          refine AQ.thenR ?_
          refine AQ.loopR ?_
          refine AQ.blockR ?_
          refine AQ.thenR ?_
          refine FnQ.coe (AQ.retCT rfl rfl rfl (by repeat (first | exact List.Mem.head _ | refine List.Mem.tail _ ?_)) (by (dsimp only [List.set, List.append, List.cons_append, List.nil_append, roB_cells, roI_cells, roO_cells, splice, ofConst, AV.cells, List.map, List.map_cons, List.map_nil, List.take, List.drop, Nat.zero_add, Nat.add_zero, Nat.reduceAdd, Nat.reduceMul, Nat.zero_mul, Value.cells, List.toList_toArray, zerosA, List.replicate, List.flatten, List.append_nil]; done)) (by rfl) ⟨_, List.nil_sublist _, .nil⟩ ⟨rfl, rfl⟩) (Coe.tup (by (repeat (first | exact CoeL.nil | refine CoeL.cons Coe.rfl ?_ | refine CoeL.cons Coe.nil ?_ | refine CoeL.cons (Coe.agg ?_) ?_)); done)) (ret2M e)
        · skip
          have hb' : clsB (inner.opts.take (k + 1)) = false := by
            rw [hts]; unfold clsB at hb ⊢; rw [List.any_append, hb]; simp only [List.any_cons, List.any_nil, Bool.false_or, Bool.or_false]; exact decide_eq_false h3
          refine AW.skip ?_
          refine AQ.thenN ?_
          refine AW.region ?_
          refine AO.op (O.move rfl rfl) rfl rfl rfl ?_
          (refine AO.op (O.loadK rfl rfl (by repeat (exact List.Mem.head _)) (by (dsimp only [List.set, List.append, List.cons_append, List.nil_append, roB_cells, roI_cells, roO_cells, splice, ofConst, AV.cells, List.map, List.map_cons, List.map_nil, List.take, List.drop, Nat.zero_add, Nat.add_zero, Nat.reduceAdd, Nat.reduceMul, Nat.zero_mul, Value.cells, List.toList_toArray, zerosA, List.replicate, List.flatten, List.append_nil]; done)) (by rfl)) rfl rfl rfl ?_)
          refine AO.op (O.call rfl Try.func44 rfl rfl rfl (copied_fn (oat inner.opts k) hv4)) rfl rfl rfl ?_
          refine AO.opB (O.buildSlice rfl rfl rfl (by rfl) (by rfl) (by rfl) (by rfl)) rfl rfl rfl ?_
          intro B6
          refine AO.g ?_
          (refine G.freezeSl 0 71 rfl rfl ⟨Nat.le_refl _, by unfold maxLen; omega⟩ ?_)
          refine G.unfull 71 rfl ?_
          refine AO.u ?_
          dsimp only [List.eraseIdx]
          (refine AO.append' (i := 1) rfl rfl rfl rfl (by rfl) (by rfl) rfl rfl rfl (by exact SrcA.ro TyD.ax (by rfl) (Nat.le_of_ble_eq_true rfl)) (by rfl) (by (unfold maxLen; omega)) (by omega) (by (dsimp only [List.set, List.append, List.cons_append, List.nil_append, roB_cells, roI_cells, roO_cells, splice, ofConst, AV.cells, List.map, List.map_cons, List.map_nil, List.take, List.drop, Nat.zero_add, Nat.add_zero, Nat.reduceAdd, Nat.reduceMul, Nat.zero_mul, Value.cells, List.toList_toArray, zerosA, List.replicate, List.flatten, List.append_nil]; done)) (fun _ => by (dsimp only [List.set]; done)) ?_)
          intro V7 hV7
          refine AO.op (O.assign rfl rfl) rfl rfl rfl ?_
          refine AO.nil ?_
          refine AQ.blockN ?_
          refine AQ.thenN ?_
          refine AW.region ?_
          refine AO.op (O.add rfl rfl rfl (by exact wI64 (by omega))) rfl rfl rfl ?_
          refine AO.op (O.move rfl rfl) rfl rfl rfl ?_
          refine AO.nil ?_
          refine AQ.loopKN _ _ _ (by omega) (⟨k + 1, _, by omega, ‹_›, hb', rfl, rfl, by rw [hts, optsA_snoc, List.length_append]⟩) (by repeat (first | exact envNil | refine envCons rfl ?_)) (by repeat (first | exact envNil | refine envCons rfl ?_)) (by repeat (first | exact subPnil | refine subPcons 1 rfl ?_))
      · skip
        obtain rfl : k = inner.opts.length := by omega
        rw [List.take_length] at hb ⊢
        have hnc : ¬ clsB inner.opts = true := by rw [hb]; simp
        have e : joinR outer inner = (⟨outer.ty, inner.code, outer.id, outer.tok, insAll (inner.opts ++ outJ outer.opts), inner.pay⟩, 0) := by rw [joinR, if_pos hc, if_pos hm2, if_neg hnc]
        refine AW.exit ?_
        refine AQ.thenX ?_
        refine AQ.loopX ?_
        refine AQ.blockX rfl ?_
        refine AQ.thenN ?_
        refine AW.seq ?_
        refine AW.seq ?_
        refine AW.region ?_
        refine AO.op (O.fieldAddr rfl rfl) rfl rfl rfl ?_
        refine AO.op (O.load rfl rfl (by repeat (first | exact List.Mem.head _ | refine List.Mem.tail _ ?_)) (by rfl)) rfl rfl rfl ?_
        refine AO.op (O.lenR rfl rfl) rfl rfl rfl ?_
        refine AO.op (O.move rfl rfl) rfl rfl rfl ?_
        refine AO.nil ?_
        refine AQ.thenN ?_
        refine AW.block ?_
        refine AW.loopK [(4, _), (6, _), (75, _), (76, _)] (fun nn E H => ∃ (k : Nat) (V : Value), (k ≤ outer.opts.length) ∧ (V.oneCell' = true) ∧ nn = outer.opts.length - k ∧ E = [(7, .val V), (77, .val (.int .i64 (k : Int)))] ∧ H = [.row V 62 2 (inner.opts ++ outJ (outer.opts.take k)).length (optsA (inner.opts ++ outJ (outer.opts.take k))), .blk B4 29 6 [.val (.int .i64 outer.ty), .val (.int .i64 inner.code), .val (.int .i64 outer.id), roB outer.tok, .val (.slice none 0 0), roB inner.pay], .blk B3 29 6 [.val (.int .i64 0), .val (.int .i64 0), .val (.int .i64 0), .val (.slice none 0 0), .val (.slice none 0 0), .val (.slice none 0 0)]]) _ (⟨0, V, by omega, hV, rfl, rfl, by rw [show inner.opts ++ outJ (outer.opts.take 0) = inner.opts by simp [outJ]]⟩) (by repeat (first | exact envNil | refine envCons rfl ?_)) (by repeat (first | exact envNil | refine envCons rfl ?_)) (by repeat (first | exact subPnil | refine subPcons 0 rfl ?_)) ?_
        rintro nn E H ⟨k, V, hk, hV, rfl, rfl, rfl⟩
        dsimp only [List.cons_append, List.nil_append]
        have hl2 := outJ_len (outer.opts.take k)
        rw [List.length_take] at hl2
        have hl3 : (inner.opts ++ outJ (outer.opts.take k)).length = inner.opts.length + (outJ (outer.opts.take k)).length := List.length_append
        refine AW.seq ?_
        refine AW.region ?_
        refine AO.op (O.lss rfl rfl rfl (by rfl)) rfl rfl rfl ?_
        refine AO.nil ?_
        refine AQ.thenN ?_
        refine AW.seq ?_
        refine AW.split rfl (fun h4 => ?_) (fun h4 => ?_) <;> (try simp only [decide_eq_true_eq, decide_eq_false_iff_not, beq_iff_eq, beq_eq_false_iff_ne, bne_iff_ne, bne_eq_false_iff_eq, Bool.not_eq_true', Bool.not_eq_false', Bool.not_eq_true, Bool.not_eq_false, ne_eq, Int.not_lt, Int.not_le, Bool.and_eq_true, Bool.or_eq_true, Bool.or_eq_false_iff, Bool.and_eq_false_imp, strOf_toList, Decidable.not_not] at h4)
        · skip
          have hkk : k < outer.opts.length := by omega
          have hv4 := a4 k hkk
          have hsc := outJ_snoc (outer.opts.take k) (oat outer.opts k)
          rw [← take_snoc Opt.none hkk] at hsc
          refine AW.skip ?_
          refine AQ.thenN ?_
          refine AW.seq ?_
          refine AW.block ?_
          refine AW.seq ?_
          refine AW.region ?_
          refine AO.op (O.idxR rfl rfl rfl ⟨(by omega), (by omega)⟩) rfl rfl rfl ?_
          refine AO.op (O.loadRK rfl rfl (by exact getO (by omega) (by omega)) (by rfl)) rfl rfl rfl ?_
          refine AO.opB (O.alloc rfl (by (dsimp only [List.set, List.append, List.cons_append, List.nil_append, roB_cells, roI_cells, roO_cells, splice, ofConst, AV.cells, List.map, List.map_cons, List.map_nil, List.take, List.drop, Nat.zero_add, Nat.add_zero, Nat.reduceAdd, Nat.reduceMul, Nat.zero_mul, Value.cells, List.toList_toArray, zerosA, List.replicate, List.flatten, List.append_nil]; done)) (by rfl)) rfl rfl rfl ?_
          intro B8
          (refine AO.store (i := 0) rfl rfl rfl rfl rfl rfl (by rfl) (by rfl) (by rfl) (by (dsimp only [List.set, List.append, List.cons_append, List.nil_append, roB_cells, roI_cells, roO_cells, splice, ofConst, AV.cells, List.map, List.map_cons, List.map_nil, List.take, List.drop, Nat.zero_add, Nat.add_zero, Nat.reduceAdd, Nat.reduceMul, Nat.zero_mul, Value.cells, List.toList_toArray, zerosA, List.replicate, List.flatten, List.append_nil]; done)) (by (dsimp only [List.set, List.append, List.cons_append, List.nil_append, roB_cells, roI_cells, roO_cells, splice, ofConst, AV.cells, List.map, List.map_cons, List.map_nil, List.take, List.drop, Nat.zero_add, Nat.add_zero, Nat.reduceAdd, Nat.reduceMul, Nat.zero_mul, Value.cells, List.toList_toArray, zerosA, List.replicate, List.flatten, List.append_nil]; done)) ?_)
          refine AO.nil ?_
          refine AQ.thenN ?_
          refine AW.seq ?_
          refine AW.region ?_
          refine AO.op (O.fieldAddr rfl rfl) rfl rfl rfl ?_
          refine AO.op (O.load rfl rfl (by repeat (exact List.Mem.head _)) (by rfl)) rfl rfl rfl ?_
          refine AO.op (O.call rfl Try.func9 rfl rfl rfl (class_fn _)) rfl rfl rfl ?_
          refine AO.op (O.eql rfl rfl rfl (by rfl)) rfl rfl rfl ?_
          refine AO.op (O.move rfl rfl) rfl rfl rfl ?_
          refine AO.opG rfl rfl rfl (fun hp => O.fieldAddr rfl rfl) ?_
          refine AO.opG rfl rfl rfl (fun hp => OpW.force 86 rfl (by exact hp) (O.load rfl rfl (by repeat (exact List.Mem.head _)) (by rfl))) ?_
          refine AO.opG rfl rfl rfl (fun hp => OpW.force 87 rfl (by exact hp) (O.neq rfl rfl rfl (by rfl))) ?_
          refine AO.op (O.pickAnd rfl rfl rfl rfl (fun h => by exact h)) rfl rfl rfl ?_
          refine AO.nil ?_
          refine AQ.thenN ?_
          refine AW.split rfl (fun h5 => ?_) (fun h5 => ?_) <;> (try simp only [decide_eq_true_eq, decide_eq_false_iff_not, beq_iff_eq, beq_eq_false_iff_ne, bne_iff_ne, bne_eq_false_iff_eq, Bool.not_eq_true', Bool.not_eq_false', Bool.not_eq_true, Bool.not_eq_false, ne_eq, Int.not_lt, Int.not_le, Bool.and_eq_true, Bool.or_eq_true, Bool.or_eq_false_iff, Bool.and_eq_false_imp, strOf_toList, Decidable.not_not] at h5)
          · skip
            rw [if_pos h5, ] at hsc
            refine AW.region ?_
            refine AO.op (O.move rfl rfl) rfl rfl rfl ?_
            (refine AO.op (O.loadK rfl rfl (by repeat (exact List.Mem.head _)) (by (dsimp only [List.set, List.append, List.cons_append, List.nil_append, roB_cells, roI_cells, roO_cells, splice, ofConst, AV.cells, List.map, List.map_cons, List.map_nil, List.take, List.drop, Nat.zero_add, Nat.add_zero, Nat.reduceAdd, Nat.reduceMul, Nat.zero_mul, Value.cells, List.toList_toArray, zerosA, List.replicate, List.flatten, List.append_nil]; done)) (by rfl)) rfl rfl rfl ?_)
            refine AO.op (O.call rfl Try.func44 rfl rfl rfl (copied_fn (oat outer.opts k) hv4)) rfl rfl rfl ?_
            refine AO.opB (O.buildSlice rfl rfl rfl (by rfl) (by rfl) (by rfl) (by rfl)) rfl rfl rfl ?_
            intro B9
            refine AO.g ?_
            (refine G.freezeSl 0 93 rfl rfl ⟨Nat.le_refl _, by unfold maxLen; omega⟩ ?_)
            refine G.unfull 93 rfl ?_
            refine AO.u ?_
            dsimp only [List.eraseIdx]
            (refine AO.append' (i := 1) rfl rfl rfl rfl (by rfl) (by rfl) rfl rfl rfl (by exact SrcA.ro TyD.ax (by rfl) (Nat.le_of_ble_eq_true rfl)) (by rfl) (by (unfold maxLen; omega)) (by omega) (by (dsimp only [List.set, List.append, List.cons_append, List.nil_append, roB_cells, roI_cells, roO_cells, splice, ofConst, AV.cells, List.map, List.map_cons, List.map_nil, List.take, List.drop, Nat.zero_add, Nat.add_zero, Nat.reduceAdd, Nat.reduceMul, Nat.zero_mul, Value.cells, List.toList_toArray, zerosA, List.replicate, List.flatten, List.append_nil]; done)) (fun _ => by (dsimp only [List.set]; done)) ?_)
            intro V10 hV10
            refine AO.op (O.assign rfl rfl) rfl rfl rfl ?_
            refine AO.nil ?_
            refine AQ.blockN ?_
            refine AQ.thenN ?_
            refine AW.region ?_
            refine AO.op (O.add rfl rfl rfl (by exact wI64 (by omega))) rfl rfl rfl ?_
            refine AO.op (O.move rfl rfl) rfl rfl rfl ?_
            refine AO.nil ?_
            refine AQ.loopKN _ _ _ (by omega) (⟨k + 1, _, by omega, ‹_›, rfl, rfl, by rw [hsc, ← List.append_assoc, optsA_snoc, List.length_append (bs := [_])]⟩) (by repeat (first | exact envNil | refine envCons rfl ?_)) (by repeat (first | exact envNil | refine envCons rfl ?_)) (by repeat (first | exact subPnil | refine subPcons 1 rfl ?_))
          · skip
            rw [if_neg (fun hh => hh.2 (h5 hh.1))] at hsc
            refine AW.skip ?_
            refine AQ.blockN ?_
            refine AQ.thenN ?_
            refine AW.region ?_
            refine AO.op (O.add rfl rfl rfl (by exact wI64 (by omega))) rfl rfl rfl ?_
            refine AO.op (O.move rfl rfl) rfl rfl rfl ?_
            refine AO.nil ?_
            refine AQ.loopKN _ _ _ (by omega) (⟨k + 1, V, by omega, hV, rfl, rfl, by rw [hsc]⟩) (by repeat (first | exact envNil | refine envCons rfl ?_)) (by repeat (first | exact envNil | refine envCons rfl ?_)) (by repeat (first | exact subPnil | refine subPcons 1 rfl ?_))
        · skip
          obtain rfl : k = outer.opts.length := by omega
          rw [List.take_length] at hl2 hl3 ⊢
          refine AW.g ?_
          refine G.freezeRow 0 rfl [7] (by repeat (first | exact frNil | refine frCons rfl ?_)) ?_
          refine AW.u ?_
          try dsimp only [List.map, List.eraseIdx, List.cons_append, List.nil_append]
          refine AW.exit ?_
          refine AQ.thenX ?_
          refine AQ.loopX ?_
          refine AQ.blockX rfl ?_
          refine AQ.thenN ?_
          refine AW.seq ?_
          refine AW.seq ?_
          refine AW.region ?_
          refine AO.op (O.move rfl rfl) rfl rfl rfl ?_
          refine AO.op (O.lenR rfl rfl) rfl rfl rfl ?_
          refine AO.op (O.move rfl rfl) rfl rfl rfl ?_
          refine AO.nil ?_
          refine AQ.thenN ?_
          refine AW.block ?_
          obtain ⟨L, hL⟩ : ∃ L, L = inner.opts ++ outJ outer.opts := ⟨_, rfl⟩
          rw [← hL] at hl3 e ⊢
          refine AW.g ?_
          refine G.nilRow 62 2 ?_
          refine AW.u ?_
          refine AW.loopK [(4, _), (6, _), (96, _), (97, _)] (fun nn E H => ∃ (k : Nat) (os : List Opt) (V : Value), (k ≤ L.length) ∧ (os = insAll (L.take k)) ∧ (V.oneCell' = true) ∧ (os = [] → V = .slice none 0 0) ∧ nn = L.length - k ∧ E = [(98, .val (.int .i64 (k : Int)))] ∧ H = [.row V 62 2 (os).length (optsA (os)), .blk B4 29 6 [.val (.int .i64 outer.ty), .val (.int .i64 inner.code), .val (.int .i64 outer.id), roB outer.tok, .val V, roB inner.pay], .blk B3 29 6 [.val (.int .i64 0), .val (.int .i64 0), .val (.int .i64 0), .val (.slice none 0 0), .val (.slice none 0 0), .val (.slice none 0 0)]]) _ (⟨0, [], _, by omega, rfl, rfl, fun _ => rfl, rfl, rfl, rfl⟩) (by repeat (first | exact envNil | refine envCons rfl ?_)) (by repeat (first | exact envNil | refine envCons rfl ?_)) (by repeat (first | exact subPnil | refine subPcons 0 rfl ?_)) ?_
          rintro nn E H ⟨k, os, V, hk, hos, hV, h0, rfl, rfl, rfl⟩
          dsimp only [List.cons_append, List.nil_append]
          have hosl : os.length = k := by rw [hos, insAll_len, List.length_take]; omega
          refine AW.seq ?_
          refine AW.region ?_
          refine AO.op (O.lss rfl rfl rfl (by rfl)) rfl rfl rfl ?_
          refine AO.nil ?_
          refine AQ.thenN ?_
          refine AW.seq ?_
          refine AW.split rfl (fun h6 => ?_) (fun h6 => ?_) <;> (try simp only [decide_eq_true_eq, decide_eq_false_iff_not, beq_iff_eq, beq_eq_false_iff_ne, bne_iff_ne, bne_eq_false_iff_eq, Bool.not_eq_true', Bool.not_eq_false', Bool.not_eq_true, Bool.not_eq_false, ne_eq, Int.not_lt, Int.not_le, Bool.and_eq_true, Bool.or_eq_true, Bool.or_eq_false_iff, Bool.and_eq_false_imp, strOf_toList, Decidable.not_not] at h6)
          · skip
            have hkk : k < L.length := by omega
            have hsc : insAll (L.take (k + 1)) = insO os (oat L k) := by rw [take_snoc Opt.none hkk, insAll_snoc, hos]
            rcases Nat.eq_zero_or_pos os.length with hz | hz
            · skip
              obtain rfl : os = [] := List.eq_nil_of_length_eq_zero hz
              obtain rfl := h0 rfl
              refine AW.skip ?_
              refine AQ.thenN ?_
              refine AW.seq ?_
              refine AW.block ?_
              refine AW.seq ?_
              refine AW.region ?_
              refine AO.op (O.idxR rfl rfl rfl ⟨(by omega), (by omega)⟩) rfl rfl rfl ?_
              refine AO.op (O.loadRK rfl rfl (by exact getO (by omega) (by omega)) (by rfl)) rfl rfl rfl ?_
              refine AO.opB (O.alloc rfl (by (dsimp only [List.set, List.append, List.cons_append, List.nil_append, roB_cells, roI_cells, roO_cells, splice, ofConst, AV.cells, List.map, List.map_cons, List.map_nil, List.take, List.drop, Nat.zero_add, Nat.add_zero, Nat.reduceAdd, Nat.reduceMul, Nat.zero_mul, Value.cells, List.toList_toArray, zerosA, List.replicate, List.flatten, List.append_nil]; done)) (by rfl)) rfl rfl rfl ?_
              intro B11
              (refine AO.store (i := 0) rfl rfl rfl rfl rfl rfl (by rfl) (by rfl) (by rfl) (by (dsimp only [List.set, List.append, List.cons_append, List.nil_append, roB_cells, roI_cells, roO_cells, splice, ofConst, AV.cells, List.map, List.map_cons, List.map_nil, List.take, List.drop, Nat.zero_add, Nat.add_zero, Nat.reduceAdd, Nat.reduceMul, Nat.zero_mul, Value.cells, List.toList_toArray, zerosA, List.replicate, List.flatten, List.append_nil]; done)) (by (dsimp only [List.set, List.append, List.cons_append, List.nil_append, roB_cells, roI_cells, roO_cells, splice, ofConst, AV.cells, List.map, List.map_cons, List.map_nil, List.take, List.drop, Nat.zero_add, Nat.add_zero, Nat.reduceAdd, Nat.reduceMul, Nat.zero_mul, Value.cells, List.toList_toArray, zerosA, List.replicate, List.flatten, List.append_nil]; done)) ?_)
              refine AO.nil ?_
              refine AQ.thenN ?_
              refine AW.seq ?_
              refine AW.region ?_
              refine AO.op (O.fieldAddr rfl rfl) rfl rfl rfl ?_
              refine AO.op (O.load rfl rfl (by repeat (first | exact List.Mem.head _ | refine List.Mem.tail _ ?_)) (by rfl)) rfl rfl rfl ?_
              refine AO.op (O.lenV rfl rfl) rfl rfl rfl ?_
              refine AO.op (O.assign rfl rfl) rfl rfl rfl ?_
              refine AO.nil ?_
              refine AQ.thenN ?_
              refine AW.seq ?_
              refine AW.block ?_
              refine AW.loopK [(4, _), (6, _), (13, _), (96, _), (97, _), (98, _)] (fun nn E H => ∃ (i : Nat), (i = 0) ∧ i = nn ∧ E = [(14, .val (.int .i64 (i : Int)))] ∧ H = [.blk B11 62 2 [.val (.int .i64 (oat L k).num), roB (oat L k).val], .row (.slice none 0 0) 62 2 0 [], .blk B4 29 6 [.val (.int .i64 outer.ty), .val (.int .i64 inner.code), .val (.int .i64 outer.id), roB outer.tok, .val (.slice none 0 0), roB inner.pay], .blk B3 29 6 [.val (.int .i64 0), .val (.int .i64 0), .val (.int .i64 0), .val (.slice none 0 0), .val (.slice none 0 0), .val (.slice none 0 0)]]) _ (⟨0, rfl, rfl, rfl, rfl⟩) (by repeat (first | exact envNil | refine envCons rfl ?_)) (by repeat (first | exact envNil | refine envCons rfl ?_)) (by repeat (first | exact subPnil | refine subPcons 0 rfl ?_)) ?_
              rintro nn E H ⟨i, hi, rfl, rfl, rfl⟩
              dsimp only [List.cons_append, List.nil_append]
              subst hi
              refine AW.seq ?_
              refine AW.seq ?_
              refine AW.regionD 14 (by kernel_rfl) (by kernel_rfl) ?_
              simp only [List.take_succ_cons, List.take_zero, List.drop_succ_cons, List.drop_zero]
              refine FA.op (O.move rfl rfl) rfl rfl rfl rfl ?_
              refine FA.op (O.gtr rfl rfl rfl (by exact bFalse (by omega))) rfl rfl rfl rfl ?_
              refine FA.op (O.move rfl rfl) rfl rfl rfl rfl ?_
              refine FA.opG rfl rfl rfl rfl (fun hp => O.fieldAddr rfl rfl) ?_
              refine FA.opG rfl rfl rfl rfl (fun hp => OpW.force 108 rfl (by exact hp) (O.load rfl rfl (by repeat (first | exact List.Mem.head _ | refine List.Mem.tail _ ?_)) (by rfl))) ?_
              refine FA.opG rfl rfl rfl rfl (fun hp => O.move rfl rfl) ?_
              refine FA.opG rfl rfl rfl rfl (fun hp => OpW.force 110 rfl (by exact hp) (O.sub rfl rfl rfl (by exact wI64 (by omega)))) ?_
              refine FA.no rfl rfl rfl rfl ?_
              refine FA.no rfl rfl rfl rfl ?_
              refine FA.no rfl rfl rfl rfl ?_
              refine FA.opG rfl rfl rfl rfl (fun hp => O.fieldAddr rfl rfl) ?_
              refine FA.opG rfl rfl rfl rfl (fun hp => OpW.force 115 rfl (by exact hp) (O.load rfl rfl (by repeat (exact List.Mem.head _)) (by rfl))) ?_
              refine FA.no rfl rfl rfl rfl ?_
              refine FA.op (O.pickF rfl rfl rfl) rfl rfl rfl rfl ?_
              refine FA.nil ?_
              simp only [chosen, List.nil_append, List.cons_append, List.append_nil]
              refine AO.nil ?_
              refine AQ.thenN ?_
              refine AW.split rfl (fun hq => ?_) (fun hq => ?_)
              · skip
                simp at hq
              · skip
                refine AW.exit ?_
                refine AQ.thenX ?_
                refine AQ.loopX ?_
                refine AQ.blockX rfl ?_
                refine AQ.thenN ?_
                refine AW.regionS [[(0, false), (1, false), (2, false), (3, false), (4, false), (6, false), (7, false), (8, false), (9, false), (5, true), (10, true)], [(11, true)], [(12, false)], [(13, true)]] (by kernel_rfl) (by kernel_rfl) ?_
                refine AMS.go (by exact (splitAt' 1 rfl splitNil)) ?_
                try dsimp only [List.eraseIdx]
                refine AM.op rfl (O.fieldAddr rfl rfl) rfl rfl rfl ?_
                refine AM.op rfl (O.load rfl rfl (by repeat (first | exact List.Mem.head _ | refine List.Mem.tail _ ?_)) (by rfl)) rfl rfl rfl ?_
                refine AM.op rfl (O.move rfl rfl) rfl rfl rfl ?_
                refine AM.op rfl (O.sliceN rfl rfl rfl rfl ⟨by omega, by omega, by omega⟩) rfl rfl rfl ?_
                (refine AM.op rfl (O.loadK rfl rfl (by repeat (exact List.Mem.head _)) (by (dsimp only [List.set, List.append, List.cons_append, List.nil_append, roB_cells, roI_cells, roO_cells, splice, ofConst, AV.cells, List.map, List.map_cons, List.map_nil, List.take, List.drop, Nat.zero_add, Nat.add_zero, Nat.reduceAdd, Nat.reduceMul, Nat.zero_mul, Value.cells, List.toList_toArray, zerosA, List.replicate, List.flatten, List.append_nil]; done)) (by rfl)) rfl rfl rfl ?_)
                refine AM.op rfl (O.fieldAddr rfl rfl) rfl rfl rfl ?_
                refine AM.op rfl (O.load rfl rfl (by repeat (first | exact List.Mem.head _ | refine List.Mem.tail _ ?_)) (by rfl)) rfl rfl rfl ?_
                refine AM.op rfl (O.move rfl rfl) rfl rfl rfl ?_
                refine AM.op rfl (O.sliceN rfl rfl rfl rfl ⟨by omega, by omega, by omega⟩) rfl rfl rfl ?_
                refine AM.main _ rfl (fun w0 R0 => ?_)
                refine AO.opB (O.buildSlice rfl rfl rfl (by rfl) (by rfl) (by rfl) (by rfl)) rfl rfl rfl ?_
                intro B12
                refine AO.g ?_
                refine G.closeRow (b := B12) (n := 1) (cap := 1) 0 rfl rfl rfl (Nat.le_refl _) (by (unfold maxLen; omega)) ?_
                refine AO.u ?_
                dsimp only [List.set]
                refine AM.ok ?_
                dsimp only [putE]
                refine AM.main _ rfl (fun w0 R0 => ?_)
                (refine AO.append' (i := 0) rfl rfl rfl rfl (by rfl) (by rfl) rfl rfl rfl (by exact SrcA.nil TyD.ax) (by rfl) (by (unfold maxLen; omega)) (by omega) (by (dsimp only [List.set, List.append, List.cons_append, List.nil_append, roB_cells, roI_cells, roO_cells, splice, ofConst, AV.cells, List.map, List.map_cons, List.map_nil, List.take, List.drop, Nat.zero_add, Nat.add_zero, Nat.reduceAdd, Nat.reduceMul, Nat.zero_mul, Value.cells, List.toList_toArray, zerosA, List.replicate, List.flatten, List.append_nil]; done)) (fun _ => by (dsimp only [List.set]; done)) ?_)
                intro V13 hV13
                refine AM.ok ?_
                dsimp only [putE]
                refine AM.nil ?_
                try dsimp only [List.cons_append, List.nil_append]
                refine AMS.go (by exact (splitAt' 0 rfl (splitAt' 0 rfl splitNil))) ?_
                try dsimp only [List.eraseIdx]
                refine AM.main _ rfl (fun w0 R0 => ?_)
                (refine AO.append' (i := 1) rfl rfl rfl rfl (by rfl) (by rfl) rfl rfl rfl (by exact SrcA.row TyD.ax (by repeat (exact List.Mem.head _)) (by rfl)) (by rfl) (by (unfold maxLen; omega)) (by omega) (by (dsimp only [List.set, List.append, List.cons_append, List.nil_append, roB_cells, roI_cells, roO_cells, splice, ofConst, AV.cells, List.map, List.map_cons, List.map_nil, List.take, List.drop, Nat.zero_add, Nat.add_zero, Nat.reduceAdd, Nat.reduceMul, Nat.zero_mul, Value.cells, List.toList_toArray, zerosA, List.replicate, List.flatten, List.append_nil]; done)) (fun _ => by (dsimp only [List.set]; done)) ?_)
                intro V14 hV14
                refine AM.ok ?_
                dsimp only [putE]
                refine AM.nil ?_
                try dsimp only [List.cons_append, List.nil_append]
                refine AMS.go (by exact splitNil) ?_
                try dsimp only [List.eraseIdx]
                refine AM.op rfl (O.fieldAddr rfl rfl) rfl rfl rfl ?_
                refine AM.nil ?_
                try dsimp only [List.cons_append, List.nil_append]
                refine AMS.go (by exact (by exact splitBlk 133 3 rfl rfl splitNil)) ?_
                try dsimp only [List.eraseIdx]
                refine AM.main _ rfl (fun w0 R0 => ?_)
                (refine AO.store (i := 0) rfl rfl rfl rfl rfl rfl (by (simp [AV.cells, AV.one, *]; done)) (by rfl) (by rfl) (by (dsimp only [List.set, List.append, List.cons_append, List.nil_append, roB_cells, roI_cells, roO_cells, splice, ofConst, AV.cells, List.map, List.map_cons, List.map_nil, List.take, List.drop, Nat.zero_add, Nat.add_zero, Nat.reduceAdd, Nat.reduceMul, Nat.zero_mul, Value.cells, List.toList_toArray, zerosA, List.replicate, List.flatten, List.append_nil]; done)) (by (dsimp only [List.set, List.append, List.cons_append, List.nil_append, roB_cells, roI_cells, roO_cells, splice, ofConst, AV.cells, List.map, List.map_cons, List.map_nil, List.take, List.drop, Nat.zero_add, Nat.add_zero, Nat.reduceAdd, Nat.reduceMul, Nat.zero_mul, Value.cells, List.toList_toArray, zerosA, List.replicate, List.flatten, List.append_nil]; done)) ?_)
                refine AM.okN ?_
                dsimp only [putE]
                refine AM.nil ?_
                try dsimp only [List.cons_append, List.nil_append]
                refine AMS.nil ?_
                refine AQ.blockN ?_
                refine AQ.thenN ?_
                refine AW.region ?_
                refine AO.op (O.add rfl rfl rfl (by exact wI64 (by omega))) rfl rfl rfl ?_
                refine AO.op (O.move rfl rfl) rfl rfl rfl ?_
                refine AO.nil ?_
                refine AQ.g ?_
                refine G.coeRow 2 (insO [] (oat L k)).length (optsA (insO [] (oat L k))) rfl rfl (CoeL.of_eq rfl) ?_
                refine AQ.u ?_
                refine AQ.loopKN _ _ _ (by omega) (⟨k + 1, insO [] (oat L k), _, by omega, hsc.symm, ‹_›, fun hh => absurd (congrArg List.length hh) (by rw [insO_len]; simp), rfl, rfl, rfl⟩) (by repeat (first | exact envNil | refine envCons rfl ?_)) (by repeat (first | exact envNil | refine envCons rfl ?_)) (by repeat (first | exact subPnil | refine subPcons 0 rfl ?_ | refine subPcons 2 rfl ?_))
            · skip
              refine AW.g ?_
              refine G.openRow 0 rfl hz (fun b' cap hc1 hc2 hxs hVe => ?_)
              refine AW.u ?_
              subst hVe
              have hc3 := hc2
              unfold maxLen at hc3
              refine AW.skip ?_
              refine AQ.thenN ?_
              refine AW.seq ?_
              refine AW.block ?_
              refine AW.seq ?_
              refine AW.region ?_
              refine AO.op (O.idxR rfl rfl rfl ⟨(by omega), (by omega)⟩) rfl rfl rfl ?_
              refine AO.op (O.loadRK rfl rfl (by exact getO (by omega) (by omega)) (by rfl)) rfl rfl rfl ?_
              refine AO.opB (O.alloc rfl (by (dsimp only [List.set, List.append, List.cons_append, List.nil_append, roB_cells, roI_cells, roO_cells, splice, ofConst, AV.cells, List.map, List.map_cons, List.map_nil, List.take, List.drop, Nat.zero_add, Nat.add_zero, Nat.reduceAdd, Nat.reduceMul, Nat.zero_mul, Value.cells, List.toList_toArray, zerosA, List.replicate, List.flatten, List.append_nil]; done)) (by rfl)) rfl rfl rfl ?_
              intro B11
              (refine AO.store (i := 0) rfl rfl rfl rfl rfl rfl (by rfl) (by rfl) (by rfl) (by (dsimp only [List.set, List.append, List.cons_append, List.nil_append, roB_cells, roI_cells, roO_cells, splice, ofConst, AV.cells, List.map, List.map_cons, List.map_nil, List.take, List.drop, Nat.zero_add, Nat.add_zero, Nat.reduceAdd, Nat.reduceMul, Nat.zero_mul, Value.cells, List.toList_toArray, zerosA, List.replicate, List.flatten, List.append_nil]; done)) (by (dsimp only [List.set, List.append, List.cons_append, List.nil_append, roB_cells, roI_cells, roO_cells, splice, ofConst, AV.cells, List.map, List.map_cons, List.map_nil, List.take, List.drop, Nat.zero_add, Nat.add_zero, Nat.reduceAdd, Nat.reduceMul, Nat.zero_mul, Value.cells, List.toList_toArray, zerosA, List.replicate, List.flatten, List.append_nil]; done)) ?_)
              refine AO.nil ?_
              refine AQ.thenN ?_
              refine AW.seq ?_
              refine AW.region ?_
              refine AO.op (O.fieldAddr rfl rfl) rfl rfl rfl ?_
              refine AO.op (O.load rfl rfl (by repeat (first | exact List.Mem.head _ | refine List.Mem.tail _ ?_)) (by rfl)) rfl rfl rfl ?_
              refine AO.op (O.lenV rfl rfl) rfl rfl rfl ?_
              refine AO.op (O.assign rfl rfl) rfl rfl rfl ?_
              refine AO.nil ?_
              refine AQ.thenN ?_
              refine AW.seq ?_
              refine AW.block ?_
              refine AW.loopK [(4, _), (6, _), (13, _), (96, _), (97, _), (98, _)] (fun nn E H => ∃ (i : Nat), (i ≤ os.length) ∧ (posO os (oat L k).num i = posO os (oat L k).num os.length) ∧ i = nn ∧ E = [(14, .val (.int .i64 (i : Int)))] ∧ H = [.blk B11 62 2 [.val (.int .i64 (oat L k).num), roB (oat L k).val], .blk b' 62 (cap * 2) (optsA os), .blk B4 29 6 [.val (.int .i64 outer.ty), .val (.int .i64 inner.code), .val (.int .i64 outer.id), roB outer.tok, .val (.slice (some ⟨b', 0, none⟩) os.length cap), roB inner.pay], .blk B3 29 6 [.val (.int .i64 0), .val (.int .i64 0), .val (.int .i64 0), .val (.slice none 0 0), .val (.slice none 0 0), .val (.slice none 0 0)]]) _ (⟨os.length, Nat.le_refl _, rfl, rfl, rfl, rfl⟩) (by repeat (first | exact envNil | refine envCons rfl ?_)) (by repeat (first | exact envNil | refine envCons rfl ?_)) (by repeat (first | exact subPnil | refine subPcons 0 rfl ?_)) ?_
              rintro nn E H ⟨i, hi, hp, rfl, rfl, rfl⟩
              dsimp only [List.cons_append, List.nil_append]
              rcases i with _ | i
              · skip
                refine AW.seq ?_
                refine AW.seq ?_
                refine AW.regionD 14 (by kernel_rfl) (by kernel_rfl) ?_
                simp only [List.take_succ_cons, List.take_zero, List.drop_succ_cons, List.drop_zero]
                refine FA.op (O.move rfl rfl) rfl rfl rfl rfl ?_
                refine FA.op (O.gtr rfl rfl rfl (by exact bFalse (by omega))) rfl rfl rfl rfl ?_
                refine FA.op (O.move rfl rfl) rfl rfl rfl rfl ?_
                refine FA.opG rfl rfl rfl rfl (fun hp => O.fieldAddr rfl rfl) ?_
                refine FA.opG rfl rfl rfl rfl (fun hp => OpW.force 108 rfl (by exact hp) (O.load rfl rfl (by repeat (first | exact List.Mem.head _ | refine List.Mem.tail _ ?_)) (by rfl))) ?_
                refine FA.opG rfl rfl rfl rfl (fun hp => O.move rfl rfl) ?_
                refine FA.opG rfl rfl rfl rfl (fun hp => OpW.force 110 rfl (by exact hp) (O.sub rfl rfl rfl (by exact wI64 (by omega)))) ?_
                refine FA.no rfl rfl rfl rfl ?_
                refine FA.no rfl rfl rfl rfl ?_
                refine FA.no rfl rfl rfl rfl ?_
                refine FA.opG rfl rfl rfl rfl (fun hp => O.fieldAddr rfl rfl) ?_
                refine FA.opG rfl rfl rfl rfl (fun hp => OpW.force 115 rfl (by exact hp) (O.load rfl rfl (by repeat (exact List.Mem.head _)) (by rfl))) ?_
                refine FA.no rfl rfl rfl rfl ?_
                refine FA.op (O.pickF rfl rfl rfl) rfl rfl rfl rfl ?_
                refine FA.nil ?_
                simp only [chosen, List.nil_append, List.cons_append, List.append_nil]
                refine AO.nil ?_
                refine AQ.thenN ?_
                refine AW.split rfl (fun hq => ?_) (fun hq => ?_)
                · skip
                  simp at hq
                · skip
                  obtain ⟨p, hp0⟩ : ∃ p : Nat, p = 0 := ⟨_, rfl⟩
                  refine AW.g ?_
                  refine G.re 14 (.val (.int .i64 (p : Int))) (by rw [hp0]; rfl) ?_
                  refine AW.u ?_
                  have hpp : p = posO os (oat L k).num os.length := by rw [hp0, ← hp]; rfl
                  have hpl : p < os.length := by omega
                  clear hp0 hp
                  refine AW.exit ?_
                  refine AQ.thenX ?_
                  refine AQ.loopX ?_
                  refine AQ.blockX rfl ?_
                  refine AQ.thenN ?_
                  refine AW.regionS [[(0, false), (1, false), (2, false), (3, false), (4, false), (6, false), (7, false), (8, false), (9, false), (5, true), (10, true)], [(11, true)], [(12, false)], [(13, true)]] (by kernel_rfl) (by kernel_rfl) ?_
                  refine AMS.go (by exact (splitAt' 1 rfl splitNil)) ?_
                  try dsimp only [List.eraseIdx]
                  refine AM.op rfl (O.fieldAddr rfl rfl) rfl rfl rfl ?_
                  refine AM.op rfl (O.load rfl rfl (by repeat (first | exact List.Mem.head _ | refine List.Mem.tail _ ?_)) (by rfl)) rfl rfl rfl ?_
                  refine AM.op rfl (O.move rfl rfl) rfl rfl rfl ?_
                  refine AM.op rfl (O.sliceV rfl rfl rfl rfl ⟨by omega, by omega, by omega⟩ (by omega)) rfl rfl rfl ?_
                  (refine AM.op rfl (O.loadK rfl rfl (by repeat (exact List.Mem.head _)) (by (dsimp only [List.set, List.append, List.cons_append, List.nil_append, roB_cells, roI_cells, roO_cells, splice, ofConst, AV.cells, List.map, List.map_cons, List.map_nil, List.take, List.drop, Nat.zero_add, Nat.add_zero, Nat.reduceAdd, Nat.reduceMul, Nat.zero_mul, Value.cells, List.toList_toArray, zerosA, List.replicate, List.flatten, List.append_nil]; done)) (by rfl)) rfl rfl rfl ?_)
                  refine AM.op rfl (O.fieldAddr rfl rfl) rfl rfl rfl ?_
                  refine AM.op rfl (O.load rfl rfl (by repeat (first | exact List.Mem.head _ | refine List.Mem.tail _ ?_)) (by rfl)) rfl rfl rfl ?_
                  refine AM.op rfl (O.move rfl rfl) rfl rfl rfl ?_
                  refine AM.op rfl (O.sliceV rfl rfl rfl rfl ⟨by omega, by omega, by omega⟩ (by omega)) rfl rfl rfl ?_
                  refine AM.main _ rfl (fun w0 R0 => ?_)
                  refine AO.opB (O.buildSlice rfl rfl rfl (by rfl) (by rfl) (by rfl) (by rfl)) rfl rfl rfl ?_
                  intro B12
                  refine AO.g ?_
                  refine G.closeRow (b := B12) (n := 1) (cap := 1) 0 rfl rfl rfl (Nat.le_refl _) (by (unfold maxLen; omega)) ?_
                  refine AO.u ?_
                  dsimp only [List.set]
                  refine AM.ok ?_
                  dsimp only [putE]
                  refine AM.main _ rfl (fun w0 R0 => ?_)
                  (refine AO.append' (i := 0) rfl rfl rfl rfl (by rfl) (by rfl) rfl rfl rfl (by exact SrcA.blk TyD.ax (by repeat (first | exact List.Mem.head _ | refine List.Mem.tail _ ?_)) (by (dsimp only [List.set, List.append, List.cons_append, List.nil_append, roB_cells, roI_cells, roO_cells, splice, ofConst, AV.cells, List.map, List.map_cons, List.map_nil, List.take, List.drop, Nat.zero_add, Nat.add_zero, Nat.reduceAdd, Nat.reduceMul, Nat.zero_mul, Value.cells, List.toList_toArray, zerosA, List.replicate, List.flatten, List.append_nil]; done)) (by (simp; omega))) (by exact one_part (optsA_one _) _ _) (by (unfold maxLen; omega)) (by omega) (by (dsimp only [List.set, List.append, List.cons_append, List.nil_append, roB_cells, roI_cells, roO_cells, splice, ofConst, AV.cells, List.map, List.map_cons, List.map_nil, List.take, List.drop, Nat.zero_add, Nat.add_zero, Nat.reduceAdd, Nat.reduceMul, Nat.zero_mul, Value.cells, List.toList_toArray, zerosA, List.replicate, List.flatten, List.append_nil]; done)) (fun _ => by (dsimp only [List.set]; done)) ?_)
                  intro V13 hV13
                  refine AM.ok ?_
                  dsimp only [putE]
                  refine AM.nil ?_
                  try dsimp only [List.cons_append, List.nil_append]
                  refine AMS.go (by exact (splitAt' 0 rfl (splitAt' 0 rfl splitNil))) ?_
                  try dsimp only [List.eraseIdx]
                  refine AM.main _ rfl (fun w0 R0 => ?_)
                  (refine AO.appendCut (i := 1) rfl rfl rfl rfl (by rfl) (by rfl) rfl rfl rfl (by omega) (by exact SrcA.row TyD.ax (by repeat (exact List.Mem.head _)) (by (simp; omega))) (by exact one_part (optsA_one _) _ _) (by (unfold maxLen; omega)) (by omega) ⟨by omega, by assumption⟩ (by (dsimp only [List.set, List.append, List.cons_append, List.nil_append, roB_cells, roI_cells, roO_cells, splice, ofConst, AV.cells, List.map, List.map_cons, List.map_nil, List.take, List.drop, Nat.zero_add, Nat.add_zero, Nat.reduceAdd, Nat.reduceMul, Nat.zero_mul, Value.cells, List.toList_toArray, zerosA, List.replicate, List.flatten, List.append_nil]; done)) (fun _ => by (dsimp only [List.set]; done)) ?_)
                  intro V14 hV14
                  refine AM.ok ?_
                  dsimp only [putE]
                  refine AM.nil ?_
                  try dsimp only [List.cons_append, List.nil_append]
                  refine AMS.go (by exact splitNil) ?_
                  try dsimp only [List.eraseIdx]
                  refine AM.op rfl (O.fieldAddr rfl rfl) rfl rfl rfl ?_
                  refine AM.nil ?_
                  try dsimp only [List.cons_append, List.nil_append]
                  refine AMS.go (by exact (by exact splitBlk 133 3 rfl rfl splitNil)) ?_
                  try dsimp only [List.eraseIdx]
                  refine AM.main _ rfl (fun w0 R0 => ?_)
                  (refine AO.store (i := 0) rfl rfl rfl rfl rfl rfl (by (simp [AV.cells, AV.one, *]; done)) (by rfl) (by rfl) (by (dsimp only [List.set, List.append, List.cons_append, List.nil_append, roB_cells, roI_cells, roO_cells, splice, ofConst, AV.cells, List.map, List.map_cons, List.map_nil, List.take, List.drop, Nat.zero_add, Nat.add_zero, Nat.reduceAdd, Nat.reduceMul, Nat.zero_mul, Value.cells, List.toList_toArray, zerosA, List.replicate, List.flatten, List.append_nil]; done)) (by (dsimp only [List.set, List.append, List.cons_append, List.nil_append, roB_cells, roI_cells, roO_cells, splice, ofConst, AV.cells, List.map, List.map_cons, List.map_nil, List.take, List.drop, Nat.zero_add, Nat.add_zero, Nat.reduceAdd, Nat.reduceMul, Nat.zero_mul, Value.cells, List.toList_toArray, zerosA, List.replicate, List.flatten, List.append_nil]; done)) ?_)
                  refine AM.okN ?_
                  dsimp only [putE]
                  refine AM.nil ?_
                  try dsimp only [List.cons_append, List.nil_append]
                  refine AMS.nil ?_
                  refine AQ.blockN ?_
                  refine AQ.thenN ?_
                  refine AW.region ?_
                  refine AO.op (O.add rfl rfl rfl (by exact wI64 (by omega))) rfl rfl rfl ?_
                  refine AO.op (O.move rfl rfl) rfl rfl rfl ?_
                  refine AO.nil ?_
                  refine AQ.g ?_
                  refine G.coeRow 2 (insO os (oat L k)).length (optsA (insO os (oat L k))) rfl (by rw [insO_len]; omega) (CoeL.of_eq (ins_cells hpp (by omega) (by omega) (by omega))) ?_
                  refine AQ.u ?_
                  refine AQ.loopKN _ _ _ (by omega) (⟨k + 1, insO os (oat L k), _, by omega, hsc.symm, ‹_›, fun hh => absurd (congrArg List.length hh) (by rw [insO_len]; simp), rfl, rfl, rfl⟩) (by repeat (first | exact envNil | refine envCons rfl ?_)) (by repeat (first | exact envNil | refine envCons rfl ?_)) (by repeat (first | exact subPnil | refine subPcons 0 rfl ?_ | refine subPcons 2 rfl ?_))
              · skip
                refine AW.seq ?_
                refine AW.seq ?_
                refine AW.regionD 14 (by kernel_rfl) (by kernel_rfl) ?_
                simp only [List.take_succ_cons, List.take_zero, List.drop_succ_cons, List.drop_zero]
                refine FA.op (O.move rfl rfl) rfl rfl rfl rfl ?_
                refine FA.op (O.gtr rfl rfl rfl (by exact bTrue (by omega))) rfl rfl rfl rfl ?_
                refine FA.op (O.move rfl rfl) rfl rfl rfl rfl ?_
                refine FA.opG rfl rfl rfl rfl (fun hp => O.fieldAddr rfl rfl) ?_
                refine FA.opG rfl rfl rfl rfl (fun hp => OpW.force 108 rfl (by exact hp) (O.load rfl rfl (by repeat (first | exact List.Mem.head _ | refine List.Mem.tail _ ?_)) (by rfl))) ?_
                refine FA.opG rfl rfl rfl rfl (fun hp => O.move rfl rfl) ?_
                refine FA.opG rfl rfl rfl rfl (fun hp => OpW.force 110 rfl (by exact hp) (O.sub rfl rfl rfl (by exact wI64 (by omega)))) ?_
                refine FA.opG rfl rfl rfl rfl (fun hp => OpW.force 109 rfl (by exact hp) (OpW.force 111 rfl (by exact hp) (O.idxV rfl rfl rfl ⟨(by omega), (by omega)⟩))) ?_
                refine FA.opG rfl rfl rfl rfl (fun hp => OpW.force 112 rfl (by exact hp) (O.fieldAddr rfl rfl)) ?_
                refine FA.opG rfl rfl rfl rfl (fun hp => OpW.force 113 rfl (by exact hp) (O.load rfl rfl (by repeat (first | exact List.Mem.head _ | refine List.Mem.tail _ ?_)) (by exact getOn (k := i) (by omega) (by omega)))) ?_
                refine FA.opG rfl rfl rfl rfl (fun hp => O.fieldAddr rfl rfl) ?_
                refine FA.opG rfl rfl rfl rfl (fun hp => OpW.force 115 rfl (by exact hp) (O.load rfl rfl (by repeat (exact List.Mem.head _)) (by rfl))) ?_
                refine FA.opG rfl rfl rfl rfl (fun hp => OpW.force 114 rfl (by exact hp) (OpW.force 116 rfl (by exact hp) (O.gtr rfl rfl rfl (by rfl)))) ?_
                refine FA.op (O.pickAnd rfl rfl rfl rfl (fun h => by exact h)) rfl rfl rfl rfl ?_
                refine FA.nil ?_
                simp only [chosen, List.nil_append, List.cons_append, List.append_nil]
                refine AO.nil ?_
                refine AQ.thenN ?_
                refine AW.split rfl (fun hq => ?_) (fun hq => ?_) <;> (try simp only [decide_eq_true_eq, decide_eq_false_iff_not, beq_iff_eq, beq_eq_false_iff_ne, bne_iff_ne, bne_eq_false_iff_eq, Bool.not_eq_true', Bool.not_eq_false', Bool.not_eq_true, Bool.not_eq_false, ne_eq, Int.not_lt, Int.not_le, Bool.and_eq_true, Bool.or_eq_true, Bool.or_eq_false_iff, Bool.and_eq_false_imp, strOf_toList, Decidable.not_not] at hq)
                · skip
                  refine AW.skip ?_
                  refine AQ.thenN ?_
                  refine AW.block ?_
                  refine AW.region ?_
                  refine AO.op (O.move rfl rfl) rfl rfl rfl ?_
                  refine AO.op (O.sub rfl rfl rfl (by exact wI64 (by omega))) rfl rfl rfl ?_
                  refine AO.op (O.assign rfl rfl) rfl rfl rfl ?_
                  refine AO.nil ?_
                  refine AQ.blockN ?_
                  rw [show ((i + 1 : Nat) : Int) - 1 = (i : Int) by omega]
                  refine AQ.loopKN _ _ _ (by omega) (⟨i, by omega, by rw [← hp, posO, if_pos hq.2], rfl, rfl, rfl⟩) (by repeat (first | exact envNil | refine envCons rfl ?_)) (by repeat (first | exact envNil | refine envCons rfl ?_)) (by repeat (first | exact subPnil | refine subPcons 0 rfl ?_))
                · skip
                  have hpp : i + 1 = posO os (oat L k).num os.length := by rw [← hp, posO, if_neg (by have := hq trivial; omega)]
                  clear hp
                  rcases Nat.lt_or_ge (i + 1) os.length with hlt | hge
                  · skip
                    refine AW.exit ?_
                    refine AQ.thenX ?_
                    refine AQ.loopX ?_
                    refine AQ.blockX rfl ?_
                    refine AQ.thenN ?_
                    refine AW.regionS [[(0, false), (1, false), (2, false), (3, false), (4, false), (6, false), (7, false), (8, false), (9, false), (5, true), (10, true)], [(11, true)], [(12, false)], [(13, true)]] (by kernel_rfl) (by kernel_rfl) ?_
                    refine AMS.go (by exact (splitAt' 1 rfl splitNil)) ?_
                    try dsimp only [List.eraseIdx]
                    refine AM.op rfl (O.fieldAddr rfl rfl) rfl rfl rfl ?_
                    refine AM.op rfl (O.load rfl rfl (by repeat (first | exact List.Mem.head _ | refine List.Mem.tail _ ?_)) (by rfl)) rfl rfl rfl ?_
                    refine AM.op rfl (O.move rfl rfl) rfl rfl rfl ?_
                    refine AM.op rfl (O.sliceV rfl rfl rfl rfl ⟨by omega, by omega, by omega⟩ (by omega)) rfl rfl rfl ?_
                    (refine AM.op rfl (O.loadK rfl rfl (by repeat (exact List.Mem.head _)) (by (dsimp only [List.set, List.append, List.cons_append, List.nil_append, roB_cells, roI_cells, roO_cells, splice, ofConst, AV.cells, List.map, List.map_cons, List.map_nil, List.take, List.drop, Nat.zero_add, Nat.add_zero, Nat.reduceAdd, Nat.reduceMul, Nat.zero_mul, Value.cells, List.toList_toArray, zerosA, List.replicate, List.flatten, List.append_nil]; done)) (by rfl)) rfl rfl rfl ?_)
                    refine AM.op rfl (O.fieldAddr rfl rfl) rfl rfl rfl ?_
                    refine AM.op rfl (O.load rfl rfl (by repeat (first | exact List.Mem.head _ | refine List.Mem.tail _ ?_)) (by rfl)) rfl rfl rfl ?_
                    refine AM.op rfl (O.move rfl rfl) rfl rfl rfl ?_
                    refine AM.op rfl (O.sliceV rfl rfl rfl rfl ⟨by omega, by omega, by omega⟩ (by omega)) rfl rfl rfl ?_
                    refine AM.main _ rfl (fun w0 R0 => ?_)
                    refine AO.opB (O.buildSlice rfl rfl rfl (by rfl) (by rfl) (by rfl) (by rfl)) rfl rfl rfl ?_
                    intro B12
                    refine AO.g ?_
                    refine G.closeRow (b := B12) (n := 1) (cap := 1) 0 rfl rfl rfl (Nat.le_refl _) (by (unfold maxLen; omega)) ?_
                    refine AO.u ?_
                    dsimp only [List.set]
                    refine AM.ok ?_
                    dsimp only [putE]
                    refine AM.main _ rfl (fun w0 R0 => ?_)
                    (refine AO.append' (i := 0) rfl rfl rfl rfl (by rfl) (by rfl) rfl rfl rfl (by exact SrcA.blk TyD.ax (by repeat (first | exact List.Mem.head _ | refine List.Mem.tail _ ?_)) (by (dsimp only [List.set, List.append, List.cons_append, List.nil_append, roB_cells, roI_cells, roO_cells, splice, ofConst, AV.cells, List.map, List.map_cons, List.map_nil, List.take, List.drop, Nat.zero_add, Nat.add_zero, Nat.reduceAdd, Nat.reduceMul, Nat.zero_mul, Value.cells, List.toList_toArray, zerosA, List.replicate, List.flatten, List.append_nil]; done)) (by (simp; omega))) (by exact one_part (optsA_one _) _ _) (by (unfold maxLen; omega)) (by omega) (by (dsimp only [List.set, List.append, List.cons_append, List.nil_append, roB_cells, roI_cells, roO_cells, splice, ofConst, AV.cells, List.map, List.map_cons, List.map_nil, List.take, List.drop, Nat.zero_add, Nat.add_zero, Nat.reduceAdd, Nat.reduceMul, Nat.zero_mul, Value.cells, List.toList_toArray, zerosA, List.replicate, List.flatten, List.append_nil]; done)) (fun _ => by (dsimp only [List.set]; done)) ?_)
                    intro V13 hV13
                    refine AM.ok ?_
                    dsimp only [putE]
                    refine AM.nil ?_
                    try dsimp only [List.cons_append, List.nil_append]
                    refine AMS.go (by exact (splitAt' 0 rfl (splitAt' 0 rfl splitNil))) ?_
                    try dsimp only [List.eraseIdx]
                    refine AM.main _ rfl (fun w0 R0 => ?_)
                    (refine AO.appendCut (i := 1) rfl rfl rfl rfl (by rfl) (by rfl) rfl rfl rfl (by omega) (by exact SrcA.row TyD.ax (by repeat (exact List.Mem.head _)) (by (simp; omega))) (by exact one_part (optsA_one _) _ _) (by (unfold maxLen; omega)) (by omega) ⟨by omega, by assumption⟩ (by (dsimp only [List.set, List.append, List.cons_append, List.nil_append, roB_cells, roI_cells, roO_cells, splice, ofConst, AV.cells, List.map, List.map_cons, List.map_nil, List.take, List.drop, Nat.zero_add, Nat.add_zero, Nat.reduceAdd, Nat.reduceMul, Nat.zero_mul, Value.cells, List.toList_toArray, zerosA, List.replicate, List.flatten, List.append_nil]; done)) (fun _ => by (dsimp only [List.set]; done)) ?_)
                    intro V14 hV14
                    refine AM.ok ?_
                    dsimp only [putE]
                    refine AM.nil ?_
                    try dsimp only [List.cons_append, List.nil_append]
                    refine AMS.go (by exact splitNil) ?_
                    try dsimp only [List.eraseIdx]
                    refine AM.op rfl (O.fieldAddr rfl rfl) rfl rfl rfl ?_
                    refine AM.nil ?_
                    try dsimp only [List.cons_append, List.nil_append]
                    refine AMS.go (by exact (by exact splitBlk 133 3 rfl rfl splitNil)) ?_
                    try dsimp only [List.eraseIdx]
                    refine AM.main _ rfl (fun w0 R0 => ?_)
                    (refine AO.store (i := 0) rfl rfl rfl rfl rfl rfl (by (simp [AV.cells, AV.one, *]; done)) (by rfl) (by rfl) (by (dsimp only [List.set, List.append, List.cons_append, List.nil_append, roB_cells, roI_cells, roO_cells, splice, ofConst, AV.cells, List.map, List.map_cons, List.map_nil, List.take, List.drop, Nat.zero_add, Nat.add_zero, Nat.reduceAdd, Nat.reduceMul, Nat.zero_mul, Value.cells, List.toList_toArray, zerosA, List.replicate, List.flatten, List.append_nil]; done)) (by (dsimp only [List.set, List.append, List.cons_append, List.nil_append, roB_cells, roI_cells, roO_cells, splice, ofConst, AV.cells, List.map, List.map_cons, List.map_nil, List.take, List.drop, Nat.zero_add, Nat.add_zero, Nat.reduceAdd, Nat.reduceMul, Nat.zero_mul, Value.cells, List.toList_toArray, zerosA, List.replicate, List.flatten, List.append_nil]; done)) ?_)
                    refine AM.okN ?_
                    dsimp only [putE]
                    refine AM.nil ?_
                    try dsimp only [List.cons_append, List.nil_append]
                    refine AMS.nil ?_
                    refine AQ.blockN ?_
                    refine AQ.thenN ?_
                    refine AW.region ?_
                    refine AO.op (O.add rfl rfl rfl (by exact wI64 (by omega))) rfl rfl rfl ?_
                    refine AO.op (O.move rfl rfl) rfl rfl rfl ?_
                    refine AO.nil ?_
                    refine AQ.g ?_
                    refine G.coeRow 2 (insO os (oat L k)).length (optsA (insO os (oat L k))) rfl (by rw [insO_len]; omega) (CoeL.of_eq (ins_cells hpp (by omega) (by omega) (by omega))) ?_
                    refine AQ.u ?_
                    refine AQ.loopKN _ _ _ (by omega) (⟨k + 1, insO os (oat L k), _, by omega, hsc.symm, ‹_›, fun hh => absurd (congrArg List.length hh) (by rw [insO_len]; simp), rfl, rfl, rfl⟩) (by repeat (first | exact envNil | refine envCons rfl ?_)) (by repeat (first | exact envNil | refine envCons rfl ?_)) (by repeat (first | exact subPnil | refine subPcons 0 rfl ?_ | refine subPcons 2 rfl ?_))
                  · skip
                    refine AW.exit ?_
                    refine AQ.thenX ?_
                    refine AQ.loopX ?_
                    refine AQ.blockX rfl ?_
                    refine AQ.thenN ?_
                    refine AW.regionS [[(0, false), (1, false), (2, false), (3, false), (4, false), (6, false), (7, false), (8, false), (9, false), (5, true), (10, true)], [(11, true)], [(12, false)], [(13, true)]] (by kernel_rfl) (by kernel_rfl) ?_
                    refine AMS.go (by exact (splitAt' 1 rfl splitNil)) ?_
                    try dsimp only [List.eraseIdx]
                    refine AM.op rfl (O.fieldAddr rfl rfl) rfl rfl rfl ?_
                    refine AM.op rfl (O.load rfl rfl (by repeat (first | exact List.Mem.head _ | refine List.Mem.tail _ ?_)) (by rfl)) rfl rfl rfl ?_
                    refine AM.op rfl (O.move rfl rfl) rfl rfl rfl ?_
                    refine AM.op rfl (O.sliceV rfl rfl rfl rfl ⟨by omega, by omega, by omega⟩ (by omega)) rfl rfl rfl ?_
                    (refine AM.op rfl (O.loadK rfl rfl (by repeat (exact List.Mem.head _)) (by (dsimp only [List.set, List.append, List.cons_append, List.nil_append, roB_cells, roI_cells, roO_cells, splice, ofConst, AV.cells, List.map, List.map_cons, List.map_nil, List.take, List.drop, Nat.zero_add, Nat.add_zero, Nat.reduceAdd, Nat.reduceMul, Nat.zero_mul, Value.cells, List.toList_toArray, zerosA, List.replicate, List.flatten, List.append_nil]; done)) (by rfl)) rfl rfl rfl ?_)
                    refine AM.op rfl (O.fieldAddr rfl rfl) rfl rfl rfl ?_
                    refine AM.op rfl (O.load rfl rfl (by repeat (first | exact List.Mem.head _ | refine List.Mem.tail _ ?_)) (by rfl)) rfl rfl rfl ?_
                    refine AM.op rfl (O.move rfl rfl) rfl rfl rfl ?_
                    refine AM.op rfl (O.sliceV0 rfl rfl rfl rfl ⟨by omega, by omega, by omega⟩ (by omega) (by assumption)) rfl rfl rfl ?_
                    refine AM.main _ rfl (fun w0 R0 => ?_)
                    refine AO.opB (O.buildSlice rfl rfl rfl (by rfl) (by rfl) (by rfl) (by rfl)) rfl rfl rfl ?_
                    intro B12
                    refine AO.g ?_
                    refine G.closeRow (b := B12) (n := 1) (cap := 1) 0 rfl rfl rfl (Nat.le_refl _) (by (unfold maxLen; omega)) ?_
                    refine AO.u ?_
                    dsimp only [List.set]
                    refine AM.ok ?_
                    dsimp only [putE]
                    refine AM.main _ rfl (fun w0 R0 => ?_)
                    (refine AO.append' (i := 0) rfl rfl rfl rfl (by rfl) (by rfl) rfl rfl rfl (by exact SrcA.ro TyD.ax (by rfl) (Nat.le_of_ble_eq_true rfl)) (by rfl) (by (unfold maxLen; omega)) (by omega) (by (dsimp only [List.set, List.append, List.cons_append, List.nil_append, roB_cells, roI_cells, roO_cells, splice, ofConst, AV.cells, List.map, List.map_cons, List.map_nil, List.take, List.drop, Nat.zero_add, Nat.add_zero, Nat.reduceAdd, Nat.reduceMul, Nat.zero_mul, Value.cells, List.toList_toArray, zerosA, List.replicate, List.flatten, List.append_nil]; done)) (fun _ => by (dsimp only [List.set]; done)) ?_)
                    intro V13 hV13
                    refine AM.ok ?_
                    dsimp only [putE]
                    refine AM.nil ?_
                    try dsimp only [List.cons_append, List.nil_append]
                    refine AMS.go (by exact (splitAt' 0 rfl (splitAt' 0 rfl splitNil))) ?_
                    try dsimp only [List.eraseIdx]
                    refine AM.main _ rfl (fun w0 R0 => ?_)
                    (refine AO.appendCut (i := 1) rfl rfl rfl rfl (by rfl) (by rfl) rfl rfl rfl (by omega) (by exact SrcA.row TyD.ax (by repeat (exact List.Mem.head _)) (by rfl)) (by rfl) (by (unfold maxLen; omega)) (by omega) ⟨by omega, by assumption⟩ (by (dsimp only [List.set, List.append, List.cons_append, List.nil_append, roB_cells, roI_cells, roO_cells, splice, ofConst, AV.cells, List.map, List.map_cons, List.map_nil, List.take, List.drop, Nat.zero_add, Nat.add_zero, Nat.reduceAdd, Nat.reduceMul, Nat.zero_mul, Value.cells, List.toList_toArray, zerosA, List.replicate, List.flatten, List.append_nil]; done)) (fun _ => by (dsimp only [List.set]; done)) ?_)
                    intro V14 hV14
                    refine AM.ok ?_
                    dsimp only [putE]
                    refine AM.nil ?_
                    try dsimp only [List.cons_append, List.nil_append]
                    refine AMS.go (by exact splitNil) ?_
                    try dsimp only [List.eraseIdx]
                    refine AM.op rfl (O.fieldAddr rfl rfl) rfl rfl rfl ?_
                    refine AM.nil ?_
                    try dsimp only [List.cons_append, List.nil_append]
                    refine AMS.go (by exact (by exact splitBlk 133 3 rfl rfl splitNil)) ?_
                    try dsimp only [List.eraseIdx]
                    refine AM.main _ rfl (fun w0 R0 => ?_)
                    (refine AO.store (i := 0) rfl rfl rfl rfl rfl rfl (by (simp [AV.cells, AV.one, *]; done)) (by rfl) (by rfl) (by (dsimp only [List.set, List.append, List.cons_append, List.nil_append, roB_cells, roI_cells, roO_cells, splice, ofConst, AV.cells, List.map, List.map_cons, List.map_nil, List.take, List.drop, Nat.zero_add, Nat.add_zero, Nat.reduceAdd, Nat.reduceMul, Nat.zero_mul, Value.cells, List.toList_toArray, zerosA, List.replicate, List.flatten, List.append_nil]; done)) (by (dsimp only [List.set, List.append, List.cons_append, List.nil_append, roB_cells, roI_cells, roO_cells, splice, ofConst, AV.cells, List.map, List.map_cons, List.map_nil, List.take, List.drop, Nat.zero_add, Nat.add_zero, Nat.reduceAdd, Nat.reduceMul, Nat.zero_mul, Value.cells, List.toList_toArray, zerosA, List.replicate, List.flatten, List.append_nil]; done)) ?_)
                    refine AM.okN ?_
                    dsimp only [putE]
                    refine AM.nil ?_
                    try dsimp only [List.cons_append, List.nil_append]
                    refine AMS.nil ?_
                    refine AQ.blockN ?_
                    refine AQ.thenN ?_
                    refine AW.region ?_
                    refine AO.op (O.add rfl rfl rfl (by exact wI64 (by omega))) rfl rfl rfl ?_
                    refine AO.op (O.move rfl rfl) rfl rfl rfl ?_
                    refine AO.nil ?_
                    refine AQ.g ?_
                    refine G.coeRow 2 (insO os (oat L k)).length (optsA (insO os (oat L k))) rfl (by rw [insO_len]; omega) (CoeL.of_eq (ins_cells1 hpp (by omega) (by omega))) ?_
                    refine AQ.u ?_
                    refine AQ.loopKN _ _ _ (by omega) (⟨k + 1, insO os (oat L k), _, by omega, hsc.symm, ‹_›, fun hh => absurd (congrArg List.length hh) (by rw [insO_len]; simp), rfl, rfl, rfl⟩) (by repeat (first | exact envNil | refine envCons rfl ?_)) (by repeat (first | exact envNil | refine envCons rfl ?_)) (by repeat (first | exact subPnil | refine subPcons 0 rfl ?_ | refine subPcons 2 rfl ?_))
                    skip
          · skip
            have hoe : os = insAll L := by rw [hos, List.take_of_length_le (by omega)]
            subst hoe
            refine AW.g ?_
            refine G.freezeCell 0 0 4 rfl rfl rfl ?_
            refine AW.u ?_
            refine AW.exit ?_
            refine AQ.thenX ?_
            refine AQ.loopX ?_
            refine AQ.blockX rfl ?_
            refine AQ.thenN ?_
            refine AW.seq ?_
            refine AW.region ?_
            (refine AO.op (O.loadK rfl rfl (by repeat (exact List.Mem.head _)) (by (dsimp only [List.set, List.append, List.cons_append, List.nil_append, roB_cells, roI_cells, roO_cells, splice, ofConst, AV.cells, List.map, List.map_cons, List.map_nil, List.take, List.drop, Nat.zero_add, Nat.add_zero, Nat.reduceAdd, Nat.reduceMul, Nat.zero_mul, Value.cells, List.toList_toArray, zerosA, List.replicate, List.flatten, List.append_nil]; done)) (by rfl)) rfl rfl rfl ?_)
            (refine AO.store (i := 1) rfl rfl rfl rfl rfl rfl (by rfl) (by rfl) (by rfl) (by (dsimp only [List.set, List.append, List.cons_append, List.nil_append, roB_cells, roI_cells, roO_cells, splice, ofConst, AV.cells, List.map, List.map_cons, List.map_nil, List.take, List.drop, Nat.zero_add, Nat.add_zero, Nat.reduceAdd, Nat.reduceMul, Nat.zero_mul, Value.cells, List.toList_toArray, zerosA, List.replicate, List.flatten, List.append_nil]; done)) (by (dsimp only [List.set, List.append, List.cons_append, List.nil_append, roB_cells, roI_cells, roO_cells, splice, ofConst, AV.cells, List.map, List.map_cons, List.map_nil, List.take, List.drop, Nat.zero_add, Nat.add_zero, Nat.reduceAdd, Nat.reduceMul, Nat.zero_mul, Value.cells, List.toList_toArray, zerosA, List.replicate, List.flatten, List.append_nil]; done)) ?_)
            refine AO.op (O.assign rfl rfl) rfl rfl rfl ?_
            refine AO.nil ?_
            refine AQ.thenN ?_
            refine AW.ret ?_
            refine FnQ.coe (AQ.retCT rfl rfl rfl (by repeat (first | exact List.Mem.head _ | refine List.Mem.tail _ ?_)) (by (dsimp only [List.set, List.append, List.cons_append, List.nil_append, roB_cells, roI_cells, roO_cells, splice, ofConst, AV.cells, List.map, List.map_cons, List.map_nil, List.take, List.drop, Nat.zero_add, Nat.add_zero, Nat.reduceAdd, Nat.reduceMul, Nat.zero_mul, Value.cells, List.toList_toArray, zerosA, List.replicate, List.flatten, List.append_nil]; done)) (by rfl) ⟨_, List.nil_sublist _, .nil⟩ ⟨rfl, rfl⟩) (Coe.tup (by (repeat (first | exact CoeL.nil | refine CoeL.cons Coe.rfl ?_)); done)) (ret2M e)
end Go.Proofs.Ytbmndjjaaeambaa.By

/-
  Layer 30: the reference's Join.
-/
namespace Go.Proofs.Ytbmndjjaaeambaa.By
open Go.RowKit L A
set_option linter.unusedVariables false
set_option linter.unusedSimpArgs false
attribute [local irreducible] AW AQ AO
theorem rq_rs {c : Int} (h : rq c = true) : rs c = false := by
  unfold rq at h
  unfold rs
  simp only [Bool.and_eq_true, decide_eq_true_eq] at h
  exact decide_eq_false (by omega)
set_option maxHeartbeats 8000000 in
theorem rjoin_fn (outer inner : Msg) (ho : TameM outer) (hi : TameM inner) : Sp Try.prog 26 [aggM outer, aggM inner] [] (Is (res2 (joinR outer inner))) := by
  obtain ⟨a1, a2, a3, a4⟩ := ho
  obtain ⟨b1, b2, b3, b4⟩ := hi
  refine Sp.enter Try.func26 rfl _ Try.ntmps26 rfl (fun w0 R0 => ?_)
  refine AW.seq ?_
  refine AW.region ?_
  refine AO.opB (O.box rfl rfl rfl rfl rfl) rfl rfl rfl ?_
  intro B1
  refine AO.opB (O.box rfl rfl rfl rfl rfl) rfl rfl rfl ?_
  intro B2
  refine AO.opB (O.alloc rfl (by (dsimp only [List.set, List.append, List.cons_append, List.nil_append, roB_cells, roI_cells, roO_cells, splice, ofConst, AV.cells, List.map, List.map_cons, List.map_nil, List.take, List.drop, Nat.zero_add, Nat.add_zero, Nat.reduceAdd, Nat.reduceMul, Nat.zero_mul, Value.cells, List.toList_toArray, zerosA, List.replicate, List.flatten, List.append_nil]; done)) (by rfl)) rfl rfl rfl ?_
  intro B3
  refine AO.op (O.assign rfl rfl) rfl rfl rfl ?_
  refine AO.nil ?_
  refine AQ.thenN ?_
  refine AW.seq ?_
  refine AW.seq ?_
  refine AW.region ?_
  refine AO.op (O.fieldAddr rfl rfl) rfl rfl rfl ?_
  refine AO.op (O.load rfl rfl (by repeat (first | exact List.Mem.head _ | refine List.Mem.tail _ ?_)) (by rfl)) rfl rfl rfl ?_
  refine AO.op (O.call rfl Try.func45 rfl rfl rfl (rsreq_fn inner.code)) rfl rfl rfl ?_
  refine AO.op (O.not rfl rfl (by rfl)) rfl rfl rfl ?_
  refine AO.op (O.move rfl rfl) rfl rfl rfl ?_
  refine AO.opG rfl rfl rfl (fun hp => O.fieldAddr rfl rfl) ?_
  refine AO.opG rfl rfl rfl (fun hp => OpW.force 22 rfl (by exact hp) (O.load rfl rfl (by repeat (first | exact List.Mem.head _ | refine List.Mem.tail _ ?_)) (by rfl))) ?_
  refine AO.opG rfl rfl rfl (fun hp => OpW.force 23 rfl (by exact hp) (O.call rfl Try.func46 rfl rfl rfl (rsresp_fn inner.code))) ?_
  refine AO.opG rfl rfl rfl (fun hp => OpW.force 24 rfl (by exact hp) (O.not rfl rfl (by rfl))) ?_
  refine AO.op (O.pickAnd rfl rfl rfl rfl (fun h => by exact h)) rfl rfl rfl ?_
  refine AO.nil ?_
  refine AQ.thenN ?_
  refine AW.split rfl (fun h => ?_) (fun h => ?_) <;> (try simp only [decide_eq_true_eq, decide_eq_false_iff_not, beq_iff_eq, beq_eq_false_iff_ne, bne_iff_ne, bne_eq_false_iff_eq, Bool.not_eq_true', Bool.not_eq_false', Bool.not_eq_true, Bool.not_eq_false, ne_eq, Int.not_lt, Int.not_le, Bool.and_eq_true, Bool.or_eq_true, Bool.or_eq_false_iff, Bool.and_eq_false_imp, strOf_toList, Decidable.not_not] at h)
  · skip
    have e : joinR outer inner = (Msg.none, 1) := if_neg (by rw [h.1, h.2]; simp)
    refine AW.seq ?_
    refine AW.region ?_
    refine AO.op (O.build rfl rfl rfl (by rfl)) rfl rfl rfl ?_
    (refine AO.store (i := 0) rfl rfl rfl rfl rfl rfl (by rfl) (by rfl) (by rfl) (by (dsimp only [List.set, List.append, List.cons_append, List.nil_append, roB_cells, roI_cells, roO_cells, splice, ofConst, AV.cells, List.map, List.map_cons, List.map_nil, List.take, List.drop, Nat.zero_add, Nat.add_zero, Nat.reduceAdd, Nat.reduceMul, Nat.zero_mul, Value.cells, List.toList_toArray, zerosA, List.replicate, List.flatten, List.append_nil]; done)) (by (dsimp only [List.set, List.append, List.cons_append, List.nil_append, roB_cells, roI_cells, roO_cells, splice, ofConst, AV.cells, List.map, List.map_cons, List.map_nil, List.take, List.drop, Nat.zero_add, Nat.add_zero, Nat.reduceAdd, Nat.reduceMul, Nat.zero_mul, Value.cells, List.toList_toArray, zerosA, List.replicate, List.flatten, List.append_nil]; done)) ?_)
    refine AO.op (O.assign rfl rfl) rfl rfl rfl ?_
    refine AO.nil ?_
    refine AQ.thenN ?_
    refine AW.ret ?_
    refine AQ.thenR ?_
    refine FnQ.coe (AQ.retCT rfl rfl rfl (by repeat (exact List.Mem.head _)) (by (dsimp only [List.set, List.append, List.cons_append, List.nil_append, roB_cells, roI_cells, roO_cells, splice, ofConst, AV.cells, List.map, List.map_cons, List.map_nil, List.take, List.drop, Nat.zero_add, Nat.add_zero, Nat.reduceAdd, Nat.reduceMul, Nat.zero_mul, Value.cells, List.toList_toArray, zerosA, List.replicate, List.flatten, List.append_nil]; done)) (by rfl) ⟨_, List.nil_sublist _, .nil⟩ ⟨rfl, rfl⟩) (Coe.tup (by (repeat (first | exact CoeL.nil | refine CoeL.cons Coe.rfl ?_ | refine CoeL.cons Coe.nil ?_ | refine CoeL.cons (Coe.agg ?_) ?_)); done)) (ret2M e)
  · skip
    have hc : rq inner.code = true ∨ rs inner.code = true := by cases hq : rq inner.code <;> simp_all
    refine AW.skip ?_
    refine AQ.thenN ?_
    refine AW.seq ?_
    refine AW.seq ?_
    refine AW.region ?_
    refine AO.op (O.fieldAddr rfl rfl) rfl rfl rfl ?_
    refine AO.op (O.load rfl rfl (by repeat (first | exact List.Mem.head _ | refine List.Mem.tail _ ?_)) (by rfl)) rfl rfl rfl ?_
    refine AO.op (O.call rfl Try.func45 rfl rfl rfl (rsreq_fn inner.code)) rfl rfl rfl ?_
    refine AO.op (O.move rfl rfl) rfl rfl rfl ?_
    refine AO.opG rfl rfl rfl (fun hp => O.fieldAddr rfl rfl) ?_
    refine AO.opG rfl rfl rfl (fun hp => OpW.force 32 rfl (by exact hp) (O.load rfl rfl (by repeat (first | exact List.Mem.head _ | refine List.Mem.tail _ ?_)) (by rfl))) ?_
    refine AO.opG rfl rfl rfl (fun hp => OpW.force 33 rfl (by exact hp) (O.call rfl Try.func45 rfl rfl rfl (rsreq_fn outer.code))) ?_
    refine AO.opG rfl rfl rfl (fun hp => OpW.force 34 rfl (by exact hp) (O.not rfl rfl (by rfl))) ?_
    refine AO.op (O.pickAnd rfl rfl rfl rfl (fun h => by exact h)) rfl rfl rfl ?_
    refine AO.op (O.move rfl rfl) rfl rfl rfl ?_
    refine AO.opG rfl rfl rfl (fun hp => O.fieldAddr rfl rfl) ?_
    refine AO.opG rfl rfl rfl (fun hp => OpW.force 38 rfl (by exact hp) (O.load rfl rfl (by repeat (first | exact List.Mem.head _ | refine List.Mem.tail _ ?_)) (by rfl))) ?_
    refine AO.opG rfl rfl rfl (fun hp => OpW.force 39 rfl (by exact hp) (O.call rfl Try.func46 rfl rfl rfl (rsresp_fn inner.code))) ?_
    refine AO.opG rfl rfl rfl (fun hp => OpW.force 40 rfl (by exact hp) (O.move rfl rfl)) ?_
    refine AO.opG rfl rfl rfl (fun hp => O.fieldAddr rfl rfl) ?_
    refine AO.opG rfl rfl rfl (fun hp => OpW.force 42 rfl (by exact hp) (O.load rfl rfl (by repeat (first | exact List.Mem.head _ | refine List.Mem.tail _ ?_)) (by rfl))) ?_
    refine AO.opG rfl rfl rfl (fun hp => OpW.force 43 rfl (by exact hp) (O.call rfl Try.func46 rfl rfl rfl (rsresp_fn outer.code))) ?_
    refine AO.opG rfl rfl rfl (fun hp => OpW.force 44 rfl (by exact hp) (O.not rfl rfl (by rfl))) ?_
    refine AO.opG rfl rfl rfl (fun hp => OpW.force 41 rfl (by exact hp) (O.pickAnd rfl rfl rfl rfl (fun h => by simp_all))) ?_
    refine AO.op (O.pickOr rfl rfl rfl rfl (fun h => by exact congrArg (fun b => !b) h)) rfl rfl rfl ?_
    refine AO.nil ?_
    refine AQ.thenN ?_
    refine AW.split rfl (fun hm => ?_) (fun hm => ?_) <;> (try simp only [decide_eq_true_eq, decide_eq_false_iff_not, beq_iff_eq, beq_eq_false_iff_ne, bne_iff_ne, bne_eq_false_iff_eq, Bool.not_eq_true', Bool.not_eq_false', Bool.not_eq_true, Bool.not_eq_false, ne_eq, Int.not_lt, Int.not_le, Bool.and_eq_true, Bool.or_eq_true, Bool.or_eq_false_iff, Bool.and_eq_false_imp, strOf_toList, Decidable.not_not] at hm)
    · skip
      have e : joinR outer inner = (Msg.none, 18) := by
        rw [joinR, if_pos hc, if_neg]
        rintro ⟨k1, k2⟩
        rw [k1, k2] at hm
        simp at hm
      refine AW.seq ?_
      refine AW.region ?_
      refine AO.op (O.build rfl rfl rfl (by rfl)) rfl rfl rfl ?_
      (refine AO.store (i := 0) rfl rfl rfl rfl rfl rfl (by rfl) (by rfl) (by rfl) (by (dsimp only [List.set, List.append, List.cons_append, List.nil_append, roB_cells, roI_cells, roO_cells, splice, ofConst, AV.cells, List.map, List.map_cons, List.map_nil, List.take, List.drop, Nat.zero_add, Nat.add_zero, Nat.reduceAdd, Nat.reduceMul, Nat.zero_mul, Value.cells, List.toList_toArray, zerosA, List.replicate, List.flatten, List.append_nil]; done)) (by (dsimp only [List.set, List.append, List.cons_append, List.nil_append, roB_cells, roI_cells, roO_cells, splice, ofConst, AV.cells, List.map, List.map_cons, List.map_nil, List.take, List.drop, Nat.zero_add, Nat.add_zero, Nat.reduceAdd, Nat.reduceMul, Nat.zero_mul, Value.cells, List.toList_toArray, zerosA, List.replicate, List.flatten, List.append_nil]; done)) ?_)
      refine AO.op (O.assign rfl rfl) rfl rfl rfl ?_
      refine AO.nil ?_
      refine AQ.thenN ?_
      refine AW.ret ?_
      refine AQ.thenR ?_
      refine FnQ.coe (AQ.retCT rfl rfl rfl (by repeat (exact List.Mem.head _)) (by (dsimp only [List.set, List.append, List.cons_append, List.nil_append, roB_cells, roI_cells, roO_cells, splice, ofConst, AV.cells, List.map, List.map_cons, List.map_nil, List.take, List.drop, Nat.zero_add, Nat.add_zero, Nat.reduceAdd, Nat.reduceMul, Nat.zero_mul, Value.cells, List.toList_toArray, zerosA, List.replicate, List.flatten, List.append_nil]; done)) (by rfl) ⟨_, List.nil_sublist _, .nil⟩ ⟨rfl, rfl⟩) (Coe.tup (by (repeat (first | exact CoeL.nil | refine CoeL.cons Coe.rfl ?_ | refine CoeL.cons Coe.nil ?_ | refine CoeL.cons (Coe.agg ?_) ?_)); done)) (ret2M e)
    · skip
      have hm2 : rq inner.code = rq outer.code ∧ rs inner.code = rs outer.code := by
        rcases hc with hc | hc
        · have h1 := hm.1 hc
          rw [hc, h1, rq_rs hc, rq_rs h1]; exact ⟨rfl, rfl⟩
        · have h1 := hm.2 hc
          have h2 : rq inner.code = false := by cases hq : rq inner.code; rfl; rw [rq_rs hq] at hc; cases hc
          have h3 : rq outer.code = false := by cases hq : rq outer.code; rfl; rw [rq_rs hq] at h1; cases h1
          rw [hc, h1, h2, h3]; exact ⟨rfl, rfl⟩
      refine AW.skip ?_
      refine AQ.thenN ?_
      refine AW.seq ?_
      refine AW.regionD 14 (by kernel_rfl) (by kernel_rfl) ?_
      simp only [List.take_succ_cons, List.take_zero, List.drop_succ_cons, List.drop_zero]
      refine FA.op (O.fieldAddr rfl rfl) rfl rfl rfl rfl ?_
      refine FA.op (O.load rfl rfl (by repeat (first | exact List.Mem.head _ | refine List.Mem.tail _ ?_)) (by rfl)) rfl rfl rfl rfl ?_
      refine FA.op (O.fieldAddr rfl rfl) rfl rfl rfl rfl ?_
      refine FA.op (O.load rfl rfl (by repeat (first | exact List.Mem.head _ | refine List.Mem.tail _ ?_)) (by rfl)) rfl rfl rfl rfl ?_
      refine FA.op (O.fieldAddr rfl rfl) rfl rfl rfl rfl ?_
      refine FA.op (O.load rfl rfl (by repeat (first | exact List.Mem.head _ | refine List.Mem.tail _ ?_)) (by rfl)) rfl rfl rfl rfl ?_
      refine FA.op (O.call rfl Try.func48 rfl rfl rfl (copy26_fn _ (by assumption))) rfl rfl rfl rfl ?_
      refine FA.op (O.fieldAddr rfl rfl) rfl rfl rfl rfl ?_
      refine FA.op (O.load rfl rfl (by repeat (first | exact List.Mem.head _ | refine List.Mem.tail _ ?_)) (by rfl)) rfl rfl rfl rfl ?_
      refine FA.op (O.fieldAddr rfl rfl) rfl rfl rfl rfl ?_
      refine FA.op (O.load rfl rfl (by repeat (first | exact List.Mem.head _ | refine List.Mem.tail _ ?_)) (by rfl)) rfl rfl rfl rfl ?_
      refine FA.op (O.call rfl Try.func48 rfl rfl rfl (copy26_fn _ (by assumption))) rfl rfl rfl rfl ?_
      refine FA.op (O.build rfl rfl rfl (by rfl)) rfl rfl rfl rfl ?_
      refine FA.opN (O.alloc rfl (by (dsimp only [List.set, List.append, List.cons_append, List.nil_append, roB_cells, roI_cells, roO_cells, splice, ofConst, AV.cells, List.map, List.map_cons, List.map_nil, List.take, List.drop, Nat.zero_add, Nat.add_zero, Nat.reduceAdd, Nat.reduceMul, Nat.zero_mul, Value.cells, List.toList_toArray, zerosA, List.replicate, List.flatten, List.append_nil]; done)) (by rfl)) rfl rfl rfl rfl ?_
      refine FA.nil ?_
      simp only [chosen, List.nil_append, List.cons_append, List.append_nil]
      rintro _ _ ⟨B4, rfl, rfl⟩
      simp only [List.cons_append, List.nil_append]
      (refine AO.store (i := 0) rfl rfl rfl rfl rfl rfl (by rfl) (by rfl) (by rfl) (by (dsimp only [List.set, List.append, List.cons_append, List.nil_append, roB_cells, roI_cells, roO_cells, splice, ofConst, AV.cells, List.map, List.map_cons, List.map_nil, List.take, List.drop, Nat.zero_add, Nat.add_zero, Nat.reduceAdd, Nat.reduceMul, Nat.zero_mul, Value.cells, List.toList_toArray, zerosA, List.replicate, List.flatten, List.append_nil]; done)) (by (dsimp only [List.set, List.append, List.cons_append, List.nil_append, roB_cells, roI_cells, roO_cells, splice, ofConst, AV.cells, List.map, List.map_cons, List.map_nil, List.take, List.drop, Nat.zero_add, Nat.add_zero, Nat.reduceAdd, Nat.reduceMul, Nat.zero_mul, Value.cells, List.toList_toArray, zerosA, List.replicate, List.flatten, List.append_nil]; done)) ?_)
      refine AO.nil ?_
      refine AQ.thenN ?_
      refine AW.seq ?_
      refine AW.region ?_
      refine AO.op (O.assign rfl rfl) rfl rfl rfl ?_
      refine AO.nil ?_
      refine AQ.thenN ?_
      refine AW.seq ?_
      refine AW.seq ?_
      refine AW.region ?_
      refine AO.op (O.fieldAddr rfl rfl) rfl rfl rfl ?_
      refine AO.op (O.load rfl rfl (by repeat (first | exact List.Mem.head _ | refine List.Mem.tail _ ?_)) (by rfl)) rfl rfl rfl ?_
      refine AO.op (O.lenR rfl rfl) rfl rfl rfl ?_
      refine AO.op (O.move rfl rfl) rfl rfl rfl ?_
      refine AO.nil ?_
      refine AQ.thenN ?_
      refine AW.block ?_
      refine AW.g ?_
      refine G.nilRow 62 2 ?_
      refine AW.u ?_
      refine AW.loopK [(2, _), (4, _), (6, _), (63, _), (64, _)] (fun nn E H => ∃ (k : Nat) (V : Value), (k ≤ inner.opts.length) ∧ (V.oneCell' = true) ∧ (clsB (inner.opts.take k) = false) ∧ nn = inner.opts.length - k ∧ E = [(7, .val V), (65, .val (.int .i64 (k : Int)))] ∧ H = [.row V 62 2 (inner.opts.take k).length (optsA (inner.opts.take k)), .blk B4 29 6 [.val (.int .i64 outer.ty), .val (.int .i64 inner.code), .val (.int .i64 outer.id), roB outer.tok, .val (.slice none 0 0), roB inner.pay], .blk B3 29 6 [.val (.int .i64 0), .val (.int .i64 0), .val (.int .i64 0), .val (.slice none 0 0), .val (.slice none 0 0), .val (.slice none 0 0)], .blk B1 29 6 [.val (.int .i64 outer.ty), .val (.int .i64 outer.code), .val (.int .i64 outer.id), roB outer.tok, roO outer.opts, roB outer.pay]]) _ (⟨0, _, by omega, rfl, rfl, rfl, rfl, rfl⟩) (by repeat (first | exact envNil | refine envCons rfl ?_)) (by repeat (first | exact envNil | refine envCons rfl ?_)) (by repeat (first | exact subPnil | refine subPcons 0 rfl ?_ | refine subPcons 1 rfl ?_)) ?_
      rintro nn E H ⟨k, V, hk, hV, hb, rfl, rfl, rfl⟩
      dsimp only [List.cons_append, List.nil_append]
      have hlk : (inner.opts.take k).length = k := by rw [List.length_take]; omega
      refine AW.seq ?_
      refine AW.region ?_
      refine AO.op (O.lss rfl rfl rfl (by rfl)) rfl rfl rfl ?_
      refine AO.nil ?_
      refine AQ.thenN ?_
      refine AW.seq ?_
      refine AW.split rfl (fun h2 => ?_) (fun h2 => ?_) <;> (try simp only [decide_eq_true_eq, decide_eq_false_iff_not, beq_iff_eq, beq_eq_false_iff_ne, bne_iff_ne, bne_eq_false_iff_eq, Bool.not_eq_true', Bool.not_eq_false', Bool.not_eq_true, Bool.not_eq_false, ne_eq, Int.not_lt, Int.not_le, Bool.and_eq_true, Bool.or_eq_true, Bool.or_eq_false_iff, Bool.and_eq_false_imp, strOf_toList, Decidable.not_not] at h2)
      · skip
        have hkk : k < inner.opts.length := by omega
        have hv4 := b4 k hkk
        have hts : inner.opts.take (k + 1) = inner.opts.take k ++ [oat inner.opts k] := take_snoc Opt.none hkk
        refine AW.skip ?_
        refine AQ.thenN ?_
        refine AW.seq ?_
        refine AW.block ?_
        refine AW.seq ?_
        refine AW.region ?_
        refine AO.op (O.idxR rfl rfl rfl ⟨(by omega), (by omega)⟩) rfl rfl rfl ?_
        refine AO.op (O.loadRK rfl rfl (by exact getO (by omega) (by omega)) (by rfl)) rfl rfl rfl ?_
        refine AO.opB (O.alloc rfl (by (dsimp only [List.set, List.append, List.cons_append, List.nil_append, roB_cells, roI_cells, roO_cells, splice, ofConst, AV.cells, List.map, List.map_cons, List.map_nil, List.take, List.drop, Nat.zero_add, Nat.add_zero, Nat.reduceAdd, Nat.reduceMul, Nat.zero_mul, Value.cells, List.toList_toArray, zerosA, List.replicate, List.flatten, List.append_nil]; done)) (by rfl)) rfl rfl rfl ?_
        intro B5
        (refine AO.store (i := 0) rfl rfl rfl rfl rfl rfl (by rfl) (by rfl) (by rfl) (by (dsimp only [List.set, List.append, List.cons_append, List.nil_append, roB_cells, roI_cells, roO_cells, splice, ofConst, AV.cells, List.map, List.map_cons, List.map_nil, List.take, List.drop, Nat.zero_add, Nat.add_zero, Nat.reduceAdd, Nat.reduceMul, Nat.zero_mul, Value.cells, List.toList_toArray, zerosA, List.replicate, List.flatten, List.append_nil]; done)) (by (dsimp only [List.set, List.append, List.cons_append, List.nil_append, roB_cells, roI_cells, roO_cells, splice, ofConst, AV.cells, List.map, List.map_cons, List.map_nil, List.take, List.drop, Nat.zero_add, Nat.add_zero, Nat.reduceAdd, Nat.reduceMul, Nat.zero_mul, Value.cells, List.toList_toArray, zerosA, List.replicate, List.flatten, List.append_nil]; done)) ?_)
        refine AO.nil ?_
        refine AQ.thenN ?_
        refine AW.seq ?_
        refine AW.seq ?_
        refine AW.region ?_
        refine AO.op (O.fieldAddr rfl rfl) rfl rfl rfl ?_
        refine AO.op (O.load rfl rfl (by repeat (exact List.Mem.head _)) (by rfl)) rfl rfl rfl ?_
        refine AO.op (O.call rfl Try.func10 rfl rfl rfl (rclass_fn _)) rfl rfl rfl ?_
        refine AO.op (O.eql rfl rfl rfl (by rfl)) rfl rfl rfl ?_
        refine AO.nil ?_
        refine AQ.thenN ?_
        refine AW.split rfl (fun h3 => ?_) (fun h3 => ?_) <;> (try simp only [decide_eq_true_eq, decide_eq_false_iff_not, beq_iff_eq, beq_eq_false_iff_ne, bne_iff_ne, bne_eq_false_iff_eq, Bool.not_eq_true', Bool.not_eq_false', Bool.not_eq_true, Bool.not_eq_false, ne_eq, Int.not_lt, Int.not_le, Bool.and_eq_true, Bool.or_eq_true, Bool.or_eq_false_iff, Bool.and_eq_false_imp, strOf_toList, Decidable.not_not] at h3)
        · skip
          have e : joinR outer inner = (Msg.none, 4) := by
            rw [joinR, if_pos hc, if_pos hm2, if_pos]
            exact List.any_eq_true.2 ⟨oat inner.opts k, getD_mem _ hkk, by simpa using h3⟩
          refine AW.seq ?_
          refine AW.region ?_
          refine AO.op (O.build rfl rfl rfl (by rfl)) rfl rfl rfl ?_
          (refine AO.store (i := 3) rfl rfl rfl rfl rfl rfl (by rfl) (by rfl) (by rfl) (by (dsimp only [List.set, List.append, List.cons_append, List.nil_append, roB_cells, roI_cells, roO_cells, splice, ofConst, AV.cells, List.map, List.map_cons, List.map_nil, List.take, List.drop, Nat.zero_add, Nat.add_zero, Nat.reduceAdd, Nat.reduceMul, Nat.zero_mul, Value.cells, List.toList_toArray, zerosA, List.replicate, List.flatten, List.append_nil]; done)) (by (dsimp only [List.set, List.append, List.cons_append, List.nil_append, roB_cells, roI_cells, roO_cells, splice, ofConst, AV.cells, List.map, List.map_cons, List.map_nil, List.take, List.drop, Nat.zero_add, Nat.add_zero, Nat.reduceAdd, Nat.reduceMul, Nat.zero_mul, Value.cells, List.toList_toArray, zerosA, List.replicate, List.flatten, List.append_nil]; done)) ?_)
          refine AO.op (O.assign rfl rfl) rfl rfl rfl ?_
          refine AO.nil ?_
          refine AQ.thenN ?_
          refine AW.ret ?_
          refine AQ.thenR ?_
          refine AQ.blockR ?_
          refine AQ.thenR ?_
          refine AQ.loopR ?_
          refine AQ.blockR ?_
          refine AQ.thenR ?_
          refine FnQ.coe (AQ.retCT rfl rfl rfl (by repeat (first | exact List.Mem.head _ | refine List.Mem.tail _ ?_)) (by (dsimp only [List.set, List.append, List.cons_append, List.nil_append, roB_cells, roI_cells, roO_cells, splice, ofConst, AV.cells, List.map, List.map_cons, List.map_nil, List.take, List.drop, Nat.zero_add, Nat.add_zero, Nat.reduceAdd, Nat.reduceMul, Nat.zero_mul, Value.cells, List.toList_toArray, zerosA, List.replicate, List.flatten, List.append_nil]; done)) (by rfl) ⟨_, List.nil_sublist _, .nil⟩ ⟨rfl, rfl⟩) (Coe.tup (by (repeat (first | exact CoeL.nil | refine CoeL.cons Coe.rfl ?_ | refine CoeL.cons Coe.nil ?_ | refine CoeL.cons (Coe.agg ?_) ?_)); done)) (ret2M e)
        · skip
          have hb' : clsB (inner.opts.take (k + 1)) = false := by
            rw [hts]; unfold clsB at hb ⊢; rw [List.any_append, hb]; simp only [List.any_cons, List.any_nil, Bool.false_or, Bool.or_false]; exact decide_eq_false h3
          refine AW.skip ?_
          refine AQ.thenN ?_
          refine AW.region ?_
          refine AO.op (O.move rfl rfl) rfl rfl rfl ?_
          (refine AO.op (O.loadK rfl rfl (by repeat (exact List.Mem.head _)) (by (dsimp only [List.set, List.append, List.cons_append, List.nil_append, roB_cells, roI_cells, roO_cells, splice, ofConst, AV.cells, List.map, List.map_cons, List.map_nil, List.take, List.drop, Nat.zero_add, Nat.add_zero, Nat.reduceAdd, Nat.reduceMul, Nat.zero_mul, Value.cells, List.toList_toArray, zerosA, List.replicate, List.flatten, List.append_nil]; done)) (by rfl)) rfl rfl rfl ?_)
          refine AO.opB (O.buildSlice rfl rfl rfl (by rfl) (by rfl) (by rfl) (by rfl)) rfl rfl rfl ?_
          intro B6
          refine AO.g ?_
          (refine G.freezeSl 0 76 rfl rfl ⟨Nat.le_refl _, by unfold maxLen; omega⟩ ?_)
          refine G.unfull 76 rfl ?_
          refine AO.u ?_
          dsimp only [List.eraseIdx]
          (refine AO.append' (i := 1) rfl rfl rfl rfl (by rfl) (by rfl) rfl rfl rfl (by exact SrcA.ro TyD.ax (by rfl) (Nat.le_of_ble_eq_true rfl)) (by rfl) (by (unfold maxLen; omega)) (by omega) (by (dsimp only [List.set, List.append, List.cons_append, List.nil_append, roB_cells, roI_cells, roO_cells, splice, ofConst, AV.cells, List.map, List.map_cons, List.map_nil, List.take, List.drop, Nat.zero_add, Nat.add_zero, Nat.reduceAdd, Nat.reduceMul, Nat.zero_mul, Value.cells, List.toList_toArray, zerosA, List.replicate, List.flatten, List.append_nil]; done)) (fun _ => by (dsimp only [List.set]; done)) ?_)
          intro V7 hV7
          refine AO.op (O.assign rfl rfl) rfl rfl rfl ?_
          refine AO.nil ?_
          refine AQ.blockN ?_
          refine AQ.thenN ?_
          refine AW.region ?_
          refine AO.op (O.add rfl rfl rfl (by exact wI64 (by omega))) rfl rfl rfl ?_
          refine AO.op (O.move rfl rfl) rfl rfl rfl ?_
          refine AO.nil ?_
          refine AQ.loopKN _ _ _ (by omega) (⟨k + 1, _, by omega, ‹_›, hb', rfl, rfl, by rw [hts, optsA_snoc, List.length_append]⟩) (by repeat (first | exact envNil | refine envCons rfl ?_)) (by repeat (first | exact envNil | refine envCons rfl ?_)) (by repeat (first | exact subPnil | refine subPcons 1 rfl ?_))
      · skip
        obtain rfl : k = inner.opts.length := by omega
        rw [List.take_length] at hb ⊢
        have hnc : ¬ clsB inner.opts = true := by rw [hb]; simp
        have e : joinR outer inner = (⟨outer.ty, inner.code, outer.id, outer.tok, insAll (inner.opts ++ outJ outer.opts), inner.pay⟩, 0) := by rw [joinR, if_pos hc, if_pos hm2, if_neg hnc]
        refine AW.exit ?_
        refine AQ.thenX ?_
        refine AQ.loopX ?_
        refine AQ.blockX rfl ?_
        refine AQ.thenN ?_
        refine AW.seq ?_
        refine AW.seq ?_
        refine AW.region ?_
        refine AO.op (O.fieldAddr rfl rfl) rfl rfl rfl ?_
        refine AO.op (O.load rfl rfl (by repeat (first | exact List.Mem.head _ | refine List.Mem.tail _ ?_)) (by rfl)) rfl rfl rfl ?_
        refine AO.op (O.lenR rfl rfl) rfl rfl rfl ?_
        refine AO.op (O.move rfl rfl) rfl rfl rfl ?_
        refine AO.nil ?_
        refine AQ.thenN ?_
        refine AW.block ?_
        refine AW.loopK [(4, _), (6, _), (80, _), (81, _)] (fun nn E H => ∃ (k : Nat) (V : Value), (k ≤ outer.opts.length) ∧ (V.oneCell' = true) ∧ nn = outer.opts.length - k ∧ E = [(7, .val V), (82, .val (.int .i64 (k : Int)))] ∧ H = [.row V 62 2 (inner.opts ++ outJ (outer.opts.take k)).length (optsA (inner.opts ++ outJ (outer.opts.take k))), .blk B4 29 6 [.val (.int .i64 outer.ty), .val (.int .i64 inner.code), .val (.int .i64 outer.id), roB outer.tok, .val (.slice none 0 0), roB inner.pay], .blk B3 29 6 [.val (.int .i64 0), .val (.int .i64 0), .val (.int .i64 0), .val (.slice none 0 0), .val (.slice none 0 0), .val (.slice none 0 0)]]) _ (⟨0, V, by omega, hV, rfl, rfl, by rw [show inner.opts ++ outJ (outer.opts.take 0) = inner.opts by simp [outJ]]⟩) (by repeat (first | exact envNil | refine envCons rfl ?_)) (by repeat (first | exact envNil | refine envCons rfl ?_)) (by repeat (first | exact subPnil | refine subPcons 0 rfl ?_)) ?_
        rintro nn E H ⟨k, V, hk, hV, rfl, rfl, rfl⟩
        dsimp only [List.cons_append, List.nil_append]
        have hl2 := outJ_len (outer.opts.take k)
        rw [List.length_take] at hl2
        have hl3 : (inner.opts ++ outJ (outer.opts.take k)).length = inner.opts.length + (outJ (outer.opts.take k)).length := List.length_append
        refine AW.seq ?_
        refine AW.region ?_
        refine AO.op (O.lss rfl rfl rfl (by rfl)) rfl rfl rfl ?_
        refine AO.nil ?_
        refine AQ.thenN ?_
        refine AW.seq ?_
        refine AW.split rfl (fun h4 => ?_) (fun h4 => ?_) <;> (try simp only [decide_eq_true_eq, decide_eq_false_iff_not, beq_iff_eq, beq_eq_false_iff_ne, bne_iff_ne, bne_eq_false_iff_eq, Bool.not_eq_true', Bool.not_eq_false', Bool.not_eq_true, Bool.not_eq_false, ne_eq, Int.not_lt, Int.not_le, Bool.and_eq_true, Bool.or_eq_true, Bool.or_eq_false_iff, Bool.and_eq_false_imp, strOf_toList, Decidable.not_not] at h4)
        · skip
          have hkk : k < outer.opts.length := by omega
          have hv4 := a4 k hkk
          have hsc := outJ_snoc (outer.opts.take k) (oat outer.opts k)
          rw [← take_snoc Opt.none hkk] at hsc
          refine AW.skip ?_
          refine AQ.thenN ?_
          refine AW.seq ?_
          refine AW.block ?_
          refine AW.seq ?_
          refine AW.region ?_
          refine AO.op (O.idxR rfl rfl rfl ⟨(by omega), (by omega)⟩) rfl rfl rfl ?_
          refine AO.op (O.loadRK rfl rfl (by exact getO (by omega) (by omega)) (by rfl)) rfl rfl rfl ?_
          refine AO.opB (O.alloc rfl (by (dsimp only [List.set, List.append, List.cons_append, List.nil_append, roB_cells, roI_cells, roO_cells, splice, ofConst, AV.cells, List.map, List.map_cons, List.map_nil, List.take, List.drop, Nat.zero_add, Nat.add_zero, Nat.reduceAdd, Nat.reduceMul, Nat.zero_mul, Value.cells, List.toList_toArray, zerosA, List.replicate, List.flatten, List.append_nil]; done)) (by rfl)) rfl rfl rfl ?_
          intro B8
          (refine AO.store (i := 0) rfl rfl rfl rfl rfl rfl (by rfl) (by rfl) (by rfl) (by (dsimp only [List.set, List.append, List.cons_append, List.nil_append, roB_cells, roI_cells, roO_cells, splice, ofConst, AV.cells, List.map, List.map_cons, List.map_nil, List.take, List.drop, Nat.zero_add, Nat.add_zero, Nat.reduceAdd, Nat.reduceMul, Nat.zero_mul, Value.cells, List.toList_toArray, zerosA, List.replicate, List.flatten, List.append_nil]; done)) (by (dsimp only [List.set, List.append, List.cons_append, List.nil_append, roB_cells, roI_cells, roO_cells, splice, ofConst, AV.cells, List.map, List.map_cons, List.map_nil, List.take, List.drop, Nat.zero_add, Nat.add_zero, Nat.reduceAdd, Nat.reduceMul, Nat.zero_mul, Value.cells, List.toList_toArray, zerosA, List.replicate, List.flatten, List.append_nil]; done)) ?_)
          refine AO.nil ?_
          refine AQ.thenN ?_
          refine AW.seq ?_
          refine AW.region ?_
          refine AO.op (O.fieldAddr rfl rfl) rfl rfl rfl ?_
          refine AO.op (O.load rfl rfl (by repeat (exact List.Mem.head _)) (by rfl)) rfl rfl rfl ?_
          refine AO.op (O.call rfl Try.func10 rfl rfl rfl (rclass_fn _)) rfl rfl rfl ?_
          refine AO.op (O.eql rfl rfl rfl (by rfl)) rfl rfl rfl ?_
          refine AO.op (O.move rfl rfl) rfl rfl rfl ?_
          refine AO.opG rfl rfl rfl (fun hp => O.fieldAddr rfl rfl) ?_
          refine AO.opG rfl rfl rfl (fun hp => OpW.force 91 rfl (by exact hp) (O.load rfl rfl (by repeat (exact List.Mem.head _)) (by rfl))) ?_
          refine AO.opG rfl rfl rfl (fun hp => OpW.force 92 rfl (by exact hp) (O.neq rfl rfl rfl (by rfl))) ?_
          refine AO.op (O.pickAnd rfl rfl rfl rfl (fun h => by exact h)) rfl rfl rfl ?_
          refine AO.nil ?_
          refine AQ.thenN ?_
          refine AW.split rfl (fun h5 => ?_) (fun h5 => ?_) <;> (try simp only [decide_eq_true_eq, decide_eq_false_iff_not, beq_iff_eq, beq_eq_false_iff_ne, bne_iff_ne, bne_eq_false_iff_eq, Bool.not_eq_true', Bool.not_eq_false', Bool.not_eq_true, Bool.not_eq_false, ne_eq, Int.not_lt, Int.not_le, Bool.and_eq_true, Bool.or_eq_true, Bool.or_eq_false_iff, Bool.and_eq_false_imp, strOf_toList, Decidable.not_not] at h5)
          · skip
            rw [if_pos h5, ] at hsc
            refine AW.region ?_
            refine AO.op (O.move rfl rfl) rfl rfl rfl ?_
            (refine AO.op (O.loadK rfl rfl (by repeat (exact List.Mem.head _)) (by (dsimp only [List.set, List.append, List.cons_append, List.nil_append, roB_cells, roI_cells, roO_cells, splice, ofConst, AV.cells, List.map, List.map_cons, List.map_nil, List.take, List.drop, Nat.zero_add, Nat.add_zero, Nat.reduceAdd, Nat.reduceMul, Nat.zero_mul, Value.cells, List.toList_toArray, zerosA, List.replicate, List.flatten, List.append_nil]; done)) (by rfl)) rfl rfl rfl ?_)
            refine AO.opB (O.buildSlice rfl rfl rfl (by rfl) (by rfl) (by rfl) (by rfl)) rfl rfl rfl ?_
            intro B9
            refine AO.g ?_
            (refine G.freezeSl 0 97 rfl rfl ⟨Nat.le_refl _, by unfold maxLen; omega⟩ ?_)
            refine G.unfull 97 rfl ?_
            refine AO.u ?_
            dsimp only [List.eraseIdx]
            (refine AO.append' (i := 1) rfl rfl rfl rfl (by rfl) (by rfl) rfl rfl rfl (by exact SrcA.ro TyD.ax (by rfl) (Nat.le_of_ble_eq_true rfl)) (by rfl) (by (unfold maxLen; omega)) (by omega) (by (dsimp only [List.set, List.append, List.cons_append, List.nil_append, roB_cells, roI_cells, roO_cells, splice, ofConst, AV.cells, List.map, List.map_cons, List.map_nil, List.take, List.drop, Nat.zero_add, Nat.add_zero, Nat.reduceAdd, Nat.reduceMul, Nat.zero_mul, Value.cells, List.toList_toArray, zerosA, List.replicate, List.flatten, List.append_nil]; done)) (fun _ => by (dsimp only [List.set]; done)) ?_)
            intro V10 hV10
            refine AO.op (O.assign rfl rfl) rfl rfl rfl ?_
            refine AO.nil ?_
            refine AQ.blockN ?_
            refine AQ.thenN ?_
            refine AW.region ?_
            refine AO.op (O.add rfl rfl rfl (by exact wI64 (by omega))) rfl rfl rfl ?_
            refine AO.op (O.move rfl rfl) rfl rfl rfl ?_
            refine AO.nil ?_
            refine AQ.loopKN _ _ _ (by omega) (⟨k + 1, _, by omega, ‹_›, rfl, rfl, by rw [hsc, ← List.append_assoc, optsA_snoc, List.length_append (bs := [_])]⟩) (by repeat (first | exact envNil | refine envCons rfl ?_)) (by repeat (first | exact envNil | refine envCons rfl ?_)) (by repeat (first | exact subPnil | refine subPcons 1 rfl ?_))
          · skip
            rw [if_neg (fun hh => hh.2 (h5 hh.1))] at hsc
            refine AW.skip ?_
            refine AQ.blockN ?_
            refine AQ.thenN ?_
            refine AW.region ?_
            refine AO.op (O.add rfl rfl rfl (by exact wI64 (by omega))) rfl rfl rfl ?_
            refine AO.op (O.move rfl rfl) rfl rfl rfl ?_
            refine AO.nil ?_
            refine AQ.loopKN _ _ _ (by omega) (⟨k + 1, V, by omega, hV, rfl, rfl, by rw [hsc]⟩) (by repeat (first | exact envNil | refine envCons rfl ?_)) (by repeat (first | exact envNil | refine envCons rfl ?_)) (by repeat (first | exact subPnil | refine subPcons 1 rfl ?_))
        · skip
          obtain rfl : k = outer.opts.length := by omega
          rw [List.take_length] at hl2 hl3 ⊢
          refine AW.g ?_
          refine G.freezeRow 0 rfl [7] (by repeat (first | exact frNil | refine frCons rfl ?_)) ?_
          refine AW.u ?_
          try dsimp only [List.map, List.eraseIdx, List.cons_append, List.nil_append]
          refine AW.exit ?_
          refine AQ.thenX ?_
          refine AQ.loopX ?_
          refine AQ.blockX rfl ?_
          refine AQ.thenN ?_
          refine AW.seq ?_
          refine AW.seq ?_
          refine AW.region ?_
          refine AO.op (O.move rfl rfl) rfl rfl rfl ?_
          refine AO.op (O.lenR rfl rfl) rfl rfl rfl ?_
          refine AO.op (O.move rfl rfl) rfl rfl rfl ?_
          refine AO.nil ?_
          refine AQ.thenN ?_
          refine AW.block ?_
          obtain ⟨L, hL⟩ : ∃ L, L = inner.opts ++ outJ outer.opts := ⟨_, rfl⟩
          have hLv : ∀ o ∈ L, o.val.length ≤ 4294967296 := fun o hoL => by
            rw [hL] at hoL
            rcases List.mem_append.1 hoL with hoL | hoL
            · obtain ⟨j, hj, rfl⟩ := List.getElem_of_mem hoL
              have := b4 j hj
              simpa [hj] using this
            · obtain ⟨j, hj, rfl⟩ := List.getElem_of_mem (List.mem_filter.1 hoL).1
              have := a4 j hj
              simpa [hj] using this
          rw [← hL] at hl3 e ⊢
          refine AW.g ?_
          refine G.nilRow 62 2 ?_
          refine AW.u ?_
          refine AW.loopK [(4, _), (6, _), (100, _), (101, _)] (fun nn E H => ∃ (k : Nat) (os : List Opt) (V : Value), (k ≤ L.length) ∧ (os = insAll (L.take k)) ∧ (V.oneCell' = true) ∧ (os = [] → V = .slice none 0 0) ∧ nn = L.length - k ∧ E = [(102, .val (.int .i64 (k : Int)))] ∧ H = [.row V 62 2 (os).length (optsA (os)), .blk B4 29 6 [.val (.int .i64 outer.ty), .val (.int .i64 inner.code), .val (.int .i64 outer.id), roB outer.tok, .val V, roB inner.pay], .blk B3 29 6 [.val (.int .i64 0), .val (.int .i64 0), .val (.int .i64 0), .val (.slice none 0 0), .val (.slice none 0 0), .val (.slice none 0 0)]]) _ (⟨0, [], _, by omega, rfl, rfl, fun _ => rfl, rfl, rfl, rfl⟩) (by repeat (first | exact envNil | refine envCons rfl ?_)) (by repeat (first | exact envNil | refine envCons rfl ?_)) (by repeat (first | exact subPnil | refine subPcons 0 rfl ?_)) ?_
          rintro nn E H ⟨k, os, V, hk, hos, hV, h0, rfl, rfl, rfl⟩
          dsimp only [List.cons_append, List.nil_append]
          have hosl : os.length = k := by rw [hos, insAll_len, List.length_take]; omega
          refine AW.seq ?_
          refine AW.region ?_
          refine AO.op (O.lss rfl rfl rfl (by rfl)) rfl rfl rfl ?_
          refine AO.nil ?_
          refine AQ.thenN ?_
          refine AW.seq ?_
          refine AW.split rfl (fun h6 => ?_) (fun h6 => ?_) <;> (try simp only [decide_eq_true_eq, decide_eq_false_iff_not, beq_iff_eq, beq_eq_false_iff_ne, bne_iff_ne, bne_eq_false_iff_eq, Bool.not_eq_true', Bool.not_eq_false', Bool.not_eq_true, Bool.not_eq_false, ne_eq, Int.not_lt, Int.not_le, Bool.and_eq_true, Bool.or_eq_true, Bool.or_eq_false_iff, Bool.and_eq_false_imp, strOf_toList, Decidable.not_not] at h6)
          · skip
            have hkk : k < L.length := by omega
            have hvL : (oat L k).val.length ≤ 4294967296 := hLv _ (getD_mem _ hkk)
            have hsc : insAll (L.take (k + 1)) = insO os (oat L k) := by rw [take_snoc Opt.none hkk, insAll_snoc, hos]
            rcases Nat.eq_zero_or_pos os.length with hz | hz
            · skip
              obtain rfl : os = [] := List.eq_nil_of_length_eq_zero hz
              obtain rfl := h0 rfl
              refine AW.skip ?_
              refine AQ.thenN ?_
              refine AW.seq ?_
              refine AW.block ?_
              refine AW.seq ?_
              refine AW.region ?_
              refine AO.op (O.idxR rfl rfl rfl ⟨(by omega), (by omega)⟩) rfl rfl rfl ?_
              refine AO.op (O.loadRK rfl rfl (by exact getO (by omega) (by omega)) (by rfl)) rfl rfl rfl ?_
              refine AO.opB (O.alloc rfl (by (dsimp only [List.set, List.append, List.cons_append, List.nil_append, roB_cells, roI_cells, roO_cells, splice, ofConst, AV.cells, List.map, List.map_cons, List.map_nil, List.take, List.drop, Nat.zero_add, Nat.add_zero, Nat.reduceAdd, Nat.reduceMul, Nat.zero_mul, Value.cells, List.toList_toArray, zerosA, List.replicate, List.flatten, List.append_nil]; done)) (by rfl)) rfl rfl rfl ?_
              intro B11
              (refine AO.store (i := 0) rfl rfl rfl rfl rfl rfl (by rfl) (by rfl) (by rfl) (by (dsimp only [List.set, List.append, List.cons_append, List.nil_append, roB_cells, roI_cells, roO_cells, splice, ofConst, AV.cells, List.map, List.map_cons, List.map_nil, List.take, List.drop, Nat.zero_add, Nat.add_zero, Nat.reduceAdd, Nat.reduceMul, Nat.zero_mul, Value.cells, List.toList_toArray, zerosA, List.replicate, List.flatten, List.append_nil]; done)) (by (dsimp only [List.set, List.append, List.cons_append, List.nil_append, roB_cells, roI_cells, roO_cells, splice, ofConst, AV.cells, List.map, List.map_cons, List.map_nil, List.take, List.drop, Nat.zero_add, Nat.add_zero, Nat.reduceAdd, Nat.reduceMul, Nat.zero_mul, Value.cells, List.toList_toArray, zerosA, List.replicate, List.flatten, List.append_nil]; done)) ?_)
              refine AO.nil ?_
              refine AQ.thenN ?_
              refine AW.seq ?_
              refine AW.regionD 7 (by kernel_rfl) (by kernel_rfl) ?_
              simp only [List.take_succ_cons, List.take_zero, List.drop_succ_cons, List.drop_zero]
              refine FA.op (O.fieldAddr rfl rfl) rfl rfl rfl rfl ?_
              refine FA.op (O.load rfl rfl (by repeat (exact List.Mem.head _)) (by rfl)) rfl rfl rfl rfl ?_
              refine FA.op (O.fieldAddr rfl rfl) rfl rfl rfl rfl ?_
              refine FA.op (O.load rfl rfl (by repeat (exact List.Mem.head _)) (by rfl)) rfl rfl rfl rfl ?_
              refine FA.op (O.call rfl Try.func48 rfl rfl rfl (copy26_fn _ (by assumption))) rfl rfl rfl rfl ?_
              refine FA.op (O.build rfl rfl rfl (by rfl)) rfl rfl rfl rfl ?_
              refine FA.opN (O.alloc rfl (by (dsimp only [List.set, List.append, List.cons_append, List.nil_append, roB_cells, roI_cells, roO_cells, splice, ofConst, AV.cells, List.map, List.map_cons, List.map_nil, List.take, List.drop, Nat.zero_add, Nat.add_zero, Nat.reduceAdd, Nat.reduceMul, Nat.zero_mul, Value.cells, List.toList_toArray, zerosA, List.replicate, List.flatten, List.append_nil]; done)) (by rfl)) rfl rfl rfl rfl ?_
              refine FA.nil ?_
              simp only [chosen, List.nil_append, List.cons_append, List.append_nil]
              rintro _ _ ⟨B12, rfl, rfl⟩
              simp only [List.cons_append, List.nil_append]
              (refine AO.store (i := 0) rfl rfl rfl rfl rfl rfl (by rfl) (by rfl) (by rfl) (by (dsimp only [List.set, List.append, List.cons_append, List.nil_append, roB_cells, roI_cells, roO_cells, splice, ofConst, AV.cells, List.map, List.map_cons, List.map_nil, List.take, List.drop, Nat.zero_add, Nat.add_zero, Nat.reduceAdd, Nat.reduceMul, Nat.zero_mul, Value.cells, List.toList_toArray, zerosA, List.replicate, List.flatten, List.append_nil]; done)) (by (dsimp only [List.set, List.append, List.cons_append, List.nil_append, roB_cells, roI_cells, roO_cells, splice, ofConst, AV.cells, List.map, List.map_cons, List.map_nil, List.take, List.drop, Nat.zero_add, Nat.add_zero, Nat.reduceAdd, Nat.reduceMul, Nat.zero_mul, Value.cells, List.toList_toArray, zerosA, List.replicate, List.flatten, List.append_nil]; done)) ?_)
              refine AO.nil ?_
              refine AQ.thenN ?_
              refine AW.seq ?_
              refine AW.region ?_
              refine AO.op (O.fieldAddr rfl rfl) rfl rfl rfl ?_
              refine AO.op (O.load rfl rfl (by repeat (first | exact List.Mem.head _ | refine List.Mem.tail _ ?_)) (by rfl)) rfl rfl rfl ?_
              refine AO.op (O.lenV rfl rfl) rfl rfl rfl ?_
              refine AO.op (O.assign rfl rfl) rfl rfl rfl ?_
              refine AO.nil ?_
              refine AQ.thenN ?_
              refine AW.seq ?_
              refine AW.block ?_
              refine AW.loopK [(4, _), (6, _), (13, _), (14, _), (100, _), (101, _), (102, _)] (fun nn E H => ∃ (i : Nat), (i = 0) ∧ i = nn ∧ E = [(15, .val (.int .i64 (i : Int)))] ∧ H = [.blk B12 62 2 [.val (.int .i64 (oat L k).num), roB (oat L k).val], .blk B11 62 2 [.val (.int .i64 (oat L k).num), roB (oat L k).val], .row (.slice none 0 0) 62 2 0 [], .blk B4 29 6 [.val (.int .i64 outer.ty), .val (.int .i64 inner.code), .val (.int .i64 outer.id), roB outer.tok, .val (.slice none 0 0), roB inner.pay], .blk B3 29 6 [.val (.int .i64 0), .val (.int .i64 0), .val (.int .i64 0), .val (.slice none 0 0), .val (.slice none 0 0), .val (.slice none 0 0)]]) _ (⟨0, rfl, rfl, rfl, rfl⟩) (by repeat (first | exact envNil | refine envCons rfl ?_)) (by repeat (first | exact envNil | refine envCons rfl ?_)) (by repeat (first | exact subPnil | refine subPcons 0 rfl ?_)) ?_
              rintro nn E H ⟨i, hi, rfl, rfl, rfl⟩
              dsimp only [List.cons_append, List.nil_append]
              subst hi
              refine AW.seq ?_
              refine AW.seq ?_
              refine AW.regionD 14 (by kernel_rfl) (by kernel_rfl) ?_
              simp only [List.take_succ_cons, List.take_zero, List.drop_succ_cons, List.drop_zero]
              refine FA.op (O.move rfl rfl) rfl rfl rfl rfl ?_
              refine FA.op (O.gtr rfl rfl rfl (by exact bFalse (by omega))) rfl rfl rfl rfl ?_
              refine FA.op (O.move rfl rfl) rfl rfl rfl rfl ?_
              refine FA.opG rfl rfl rfl rfl (fun hp => O.fieldAddr rfl rfl) ?_
              refine FA.opG rfl rfl rfl rfl (fun hp => OpW.force 118 rfl (by exact hp) (O.load rfl rfl (by repeat (first | exact List.Mem.head _ | refine List.Mem.tail _ ?_)) (by rfl))) ?_
              refine FA.opG rfl rfl rfl rfl (fun hp => O.move rfl rfl) ?_
              refine FA.opG rfl rfl rfl rfl (fun hp => OpW.force 120 rfl (by exact hp) (O.sub rfl rfl rfl (by exact wI64 (by omega)))) ?_
              refine FA.no rfl rfl rfl rfl ?_
              refine FA.no rfl rfl rfl rfl ?_
              refine FA.no rfl rfl rfl rfl ?_
              refine FA.opG rfl rfl rfl rfl (fun hp => O.fieldAddr rfl rfl) ?_
              refine FA.opG rfl rfl rfl rfl (fun hp => OpW.force 125 rfl (by exact hp) (O.load rfl rfl (by repeat (first | exact List.Mem.head _ | refine List.Mem.tail _ ?_)) (by rfl))) ?_
              refine FA.no rfl rfl rfl rfl ?_
              refine FA.op (O.pickF rfl rfl rfl) rfl rfl rfl rfl ?_
              refine FA.nil ?_
              simp only [chosen, List.nil_append, List.cons_append, List.append_nil]
              refine AO.nil ?_
              refine AQ.thenN ?_
              refine AW.split rfl (fun hq => ?_) (fun hq => ?_)
              · skip
                simp at hq
              · skip
                refine AW.exit ?_
                refine AQ.thenX ?_
                refine AQ.loopX ?_
                refine AQ.blockX rfl ?_
                refine AQ.thenN ?_
                refine AW.seq ?_
                refine AW.region ?_
                refine AO.op (O.fieldAddr rfl rfl) rfl rfl rfl ?_
                refine AO.op (O.load rfl rfl (by repeat (first | exact List.Mem.head _ | refine List.Mem.tail _ ?_)) (by rfl)) rfl rfl rfl ?_
                refine AO.op (O.move rfl rfl) rfl rfl rfl ?_
                refine AO.op (O.sliceN rfl rfl rfl rfl ⟨by omega, by omega, by omega⟩) rfl rfl rfl ?_
                refine AO.opRow (O.appendNil rfl (by rfl) (by rfl) rfl rfl (by exact SrcA.nil TyD.ax) (by rfl) (by (unfold maxLen; omega)) (by omega)) rfl rfl rfl ?_
                intro V13 hV13
                refine AO.op (O.assign rfl rfl) rfl rfl rfl ?_
                refine AO.nil ?_
                refine AQ.thenN ?_
                refine AW.regionS [[(0, false), (1, false), (2, false), (3, false), (4, false), (5, false), (7, false), (6, true)], [(8, true)], [(9, false)], [(10, true)]] (by kernel_rfl) (by kernel_rfl) ?_
                refine AMS.go (by exact (splitAt' 3 rfl splitNil)) ?_
                try dsimp only [List.eraseIdx]
                refine AM.op rfl (O.fieldAddr rfl rfl) rfl rfl rfl ?_
                refine AM.op rfl (O.load rfl rfl (by repeat (first | exact List.Mem.head _ | refine List.Mem.tail _ ?_)) (by rfl)) rfl rfl rfl ?_
                refine AM.op rfl (O.move rfl rfl) rfl rfl rfl ?_
                refine AM.op rfl (O.sliceN rfl rfl rfl rfl ⟨by omega, by omega, by omega⟩) rfl rfl rfl ?_
                (refine AM.op rfl (O.loadK rfl rfl (by repeat (first | exact List.Mem.head _ | refine List.Mem.tail _ ?_)) (by (dsimp only [List.set, List.append, List.cons_append, List.nil_append, roB_cells, roI_cells, roO_cells, splice, ofConst, AV.cells, List.map, List.map_cons, List.map_nil, List.take, List.drop, Nat.zero_add, Nat.add_zero, Nat.reduceAdd, Nat.reduceMul, Nat.zero_mul, Value.cells, List.toList_toArray, zerosA, List.replicate, List.flatten, List.append_nil]; done)) (by rfl)) rfl rfl rfl ?_)
                refine AM.op rfl (OpW.frz (O.buildSlice rfl rfl rfl (by rfl) (by rfl) (by rfl) (by rfl)) (by (unfold maxLen; omega))) rfl rfl rfl ?_
                refine AM.op rfl (O.move rfl rfl) rfl rfl rfl ?_
                refine AM.main _ rfl (fun w0 R0 => ?_)
                (refine AO.append' (i := 0) rfl rfl rfl rfl (by rfl) (by rfl) rfl rfl rfl (by exact SrcA.ro TyD.ax (by rfl) (Nat.le_of_ble_eq_true rfl)) (by rfl) (by (unfold maxLen; omega)) (by omega) (by (dsimp only [List.set, List.append, List.cons_append, List.nil_append, roB_cells, roI_cells, roO_cells, splice, ofConst, AV.cells, List.map, List.map_cons, List.map_nil, List.take, List.drop, Nat.zero_add, Nat.add_zero, Nat.reduceAdd, Nat.reduceMul, Nat.zero_mul, Value.cells, List.toList_toArray, zerosA, List.replicate, List.flatten, List.append_nil]; done)) (fun _ => by (dsimp only [List.set]; done)) ?_)
                intro V14 hV14
                refine AM.ok ?_
                dsimp only [putE]
                refine AM.nil ?_
                try dsimp only [List.cons_append, List.nil_append]
                refine AMS.go (by exact (splitAt' 0 rfl (splitAt' 0 rfl splitNil))) ?_
                try dsimp only [List.eraseIdx]
                refine AM.main _ rfl (fun w0 R0 => ?_)
                (refine AO.append' (i := 0) rfl rfl rfl rfl (by rfl) (by rfl) rfl rfl rfl (by exact SrcA.row TyD.ax (by repeat (first | exact List.Mem.head _ | refine List.Mem.tail _ ?_)) (by rfl)) (by rfl) (by (unfold maxLen; omega)) (by omega) (by (dsimp only [List.set, List.append, List.cons_append, List.nil_append, roB_cells, roI_cells, roO_cells, splice, ofConst, AV.cells, List.map, List.map_cons, List.map_nil, List.take, List.drop, Nat.zero_add, Nat.add_zero, Nat.reduceAdd, Nat.reduceMul, Nat.zero_mul, Value.cells, List.toList_toArray, zerosA, List.replicate, List.flatten, List.append_nil]; done)) (fun _ => by (dsimp only [List.set]; done)) ?_)
                intro V15 hV15
                refine AM.ok ?_
                dsimp only [putE]
                refine AM.nil ?_
                try dsimp only [List.cons_append, List.nil_append]
                refine AMS.go (by exact splitNil) ?_
                try dsimp only [List.eraseIdx]
                refine AM.op rfl (O.fieldAddr rfl rfl) rfl rfl rfl ?_
                refine AM.nil ?_
                try dsimp only [List.cons_append, List.nil_append]
                refine AMS.go (by exact (by exact splitBlk 145 4 rfl rfl splitNil)) ?_
                try dsimp only [List.eraseIdx]
                refine AM.main _ rfl (fun w0 R0 => ?_)
                (refine AO.store (i := 0) rfl rfl rfl rfl rfl rfl (by (simp [AV.cells, AV.one, *]; done)) (by rfl) (by rfl) (by (dsimp only [List.set, List.append, List.cons_append, List.nil_append, roB_cells, roI_cells, roO_cells, splice, ofConst, AV.cells, List.map, List.map_cons, List.map_nil, List.take, List.drop, Nat.zero_add, Nat.add_zero, Nat.reduceAdd, Nat.reduceMul, Nat.zero_mul, Value.cells, List.toList_toArray, zerosA, List.replicate, List.flatten, List.append_nil]; done)) (by (dsimp only [List.set, List.append, List.cons_append, List.nil_append, roB_cells, roI_cells, roO_cells, splice, ofConst, AV.cells, List.map, List.map_cons, List.map_nil, List.take, List.drop, Nat.zero_add, Nat.add_zero, Nat.reduceAdd, Nat.reduceMul, Nat.zero_mul, Value.cells, List.toList_toArray, zerosA, List.replicate, List.flatten, List.append_nil]; done)) ?_)
                refine AM.okN ?_
                dsimp only [putE]
                refine AM.nil ?_
                try dsimp only [List.cons_append, List.nil_append]
                refine AMS.nil ?_
                refine AQ.blockN ?_
                refine AQ.thenN ?_
                refine AW.region ?_
                refine AO.op (O.add rfl rfl rfl (by exact wI64 (by omega))) rfl rfl rfl ?_
                refine AO.op (O.move rfl rfl) rfl rfl rfl ?_
                refine AO.nil ?_
                refine AQ.g ?_
                refine G.coeRow 1 (insO [] (oat L k)).length (optsA (insO [] (oat L k))) rfl rfl (CoeL.of_eq rfl) ?_
                refine AQ.u ?_
                refine AQ.loopKN _ _ _ (by omega) (⟨k + 1, insO [] (oat L k), _, by omega, hsc.symm, ‹_›, fun hh => absurd (congrArg List.length hh) (by rw [insO_len]; simp), rfl, rfl, rfl⟩) (by repeat (first | exact envNil | refine envCons rfl ?_)) (by repeat (first | exact envNil | refine envCons rfl ?_)) (by repeat (first | exact subPnil | refine subPcons 0 rfl ?_ | refine subPcons 1 rfl ?_ | refine subPcons 3 rfl ?_))
            · skip
              refine AW.g ?_
              refine G.openRow 0 rfl hz (fun b' cap hc1 hc2 hxs hVe => ?_)
              refine AW.u ?_
              subst hVe
              have hc3 := hc2
              unfold maxLen at hc3
              refine AW.skip ?_
              refine AQ.thenN ?_
              refine AW.seq ?_
              refine AW.block ?_
              refine AW.seq ?_
              refine AW.region ?_
              refine AO.op (O.idxR rfl rfl rfl ⟨(by omega), (by omega)⟩) rfl rfl rfl ?_
              refine AO.op (O.loadRK rfl rfl (by exact getO (by omega) (by omega)) (by rfl)) rfl rfl rfl ?_
              refine AO.opB (O.alloc rfl (by (dsimp only [List.set, List.append, List.cons_append, List.nil_append, roB_cells, roI_cells, roO_cells, splice, ofConst, AV.cells, List.map, List.map_cons, List.map_nil, List.take, List.drop, Nat.zero_add, Nat.add_zero, Nat.reduceAdd, Nat.reduceMul, Nat.zero_mul, Value.cells, List.toList_toArray, zerosA, List.replicate, List.flatten, List.append_nil]; done)) (by rfl)) rfl rfl rfl ?_
              intro B11
              (refine AO.store (i := 0) rfl rfl rfl rfl rfl rfl (by rfl) (by rfl) (by rfl) (by (dsimp only [List.set, List.append, List.cons_append, List.nil_append, roB_cells, roI_cells, roO_cells, splice, ofConst, AV.cells, List.map, List.map_cons, List.map_nil, List.take, List.drop, Nat.zero_add, Nat.add_zero, Nat.reduceAdd, Nat.reduceMul, Nat.zero_mul, Value.cells, List.toList_toArray, zerosA, List.replicate, List.flatten, List.append_nil]; done)) (by (dsimp only [List.set, List.append, List.cons_append, List.nil_append, roB_cells, roI_cells, roO_cells, splice, ofConst, AV.cells, List.map, List.map_cons, List.map_nil, List.take, List.drop, Nat.zero_add, Nat.add_zero, Nat.reduceAdd, Nat.reduceMul, Nat.zero_mul, Value.cells, List.toList_toArray, zerosA, List.replicate, List.flatten, List.append_nil]; done)) ?_)
              refine AO.nil ?_
              refine AQ.thenN ?_
              refine AW.seq ?_
              refine AW.regionD 7 (by kernel_rfl) (by kernel_rfl) ?_
              simp only [List.take_succ_cons, List.take_zero, List.drop_succ_cons, List.drop_zero]
              refine FA.op (O.fieldAddr rfl rfl) rfl rfl rfl rfl ?_
              refine FA.op (O.load rfl rfl (by repeat (exact List.Mem.head _)) (by rfl)) rfl rfl rfl rfl ?_
              refine FA.op (O.fieldAddr rfl rfl) rfl rfl rfl rfl ?_
              refine FA.op (O.load rfl rfl (by repeat (exact List.Mem.head _)) (by rfl)) rfl rfl rfl rfl ?_
              refine FA.op (O.call rfl Try.func48 rfl rfl rfl (copy26_fn _ (by assumption))) rfl rfl rfl rfl ?_
              refine FA.op (O.build rfl rfl rfl (by rfl)) rfl rfl rfl rfl ?_
              refine FA.opN (O.alloc rfl (by (dsimp only [List.set, List.append, List.cons_append, List.nil_append, roB_cells, roI_cells, roO_cells, splice, ofConst, AV.cells, List.map, List.map_cons, List.map_nil, List.take, List.drop, Nat.zero_add, Nat.add_zero, Nat.reduceAdd, Nat.reduceMul, Nat.zero_mul, Value.cells, List.toList_toArray, zerosA, List.replicate, List.flatten, List.append_nil]; done)) (by rfl)) rfl rfl rfl rfl ?_
              refine FA.nil ?_
              simp only [chosen, List.nil_append, List.cons_append, List.append_nil]
              rintro _ _ ⟨B12, rfl, rfl⟩
              simp only [List.cons_append, List.nil_append]
              (refine AO.store (i := 0) rfl rfl rfl rfl rfl rfl (by rfl) (by rfl) (by rfl) (by (dsimp only [List.set, List.append, List.cons_append, List.nil_append, roB_cells, roI_cells, roO_cells, splice, ofConst, AV.cells, List.map, List.map_cons, List.map_nil, List.take, List.drop, Nat.zero_add, Nat.add_zero, Nat.reduceAdd, Nat.reduceMul, Nat.zero_mul, Value.cells, List.toList_toArray, zerosA, List.replicate, List.flatten, List.append_nil]; done)) (by (dsimp only [List.set, List.append, List.cons_append, List.nil_append, roB_cells, roI_cells, roO_cells, splice, ofConst, AV.cells, List.map, List.map_cons, List.map_nil, List.take, List.drop, Nat.zero_add, Nat.add_zero, Nat.reduceAdd, Nat.reduceMul, Nat.zero_mul, Value.cells, List.toList_toArray, zerosA, List.replicate, List.flatten, List.append_nil]; done)) ?_)
              refine AO.nil ?_
              refine AQ.thenN ?_
              refine AW.seq ?_
              refine AW.region ?_
              refine AO.op (O.fieldAddr rfl rfl) rfl rfl rfl ?_
              refine AO.op (O.load rfl rfl (by repeat (first | exact List.Mem.head _ | refine List.Mem.tail _ ?_)) (by rfl)) rfl rfl rfl ?_
              refine AO.op (O.lenV rfl rfl) rfl rfl rfl ?_
              refine AO.op (O.assign rfl rfl) rfl rfl rfl ?_
              refine AO.nil ?_
              refine AQ.thenN ?_
              refine AW.seq ?_
              refine AW.block ?_
              refine AW.loopK [(4, _), (6, _), (13, _), (14, _), (100, _), (101, _), (102, _)] (fun nn E H => ∃ (i : Nat), (i ≤ os.length) ∧ (posO os (oat L k).num i = posO os (oat L k).num os.length) ∧ i = nn ∧ E = [(15, .val (.int .i64 (i : Int)))] ∧ H = [.blk B12 62 2 [.val (.int .i64 (oat L k).num), roB (oat L k).val], .blk B11 62 2 [.val (.int .i64 (oat L k).num), roB (oat L k).val], .blk b' 62 (cap * 2) (optsA os), .blk B4 29 6 [.val (.int .i64 outer.ty), .val (.int .i64 inner.code), .val (.int .i64 outer.id), roB outer.tok, .val (.slice (some ⟨b', 0, none⟩) os.length cap), roB inner.pay], .blk B3 29 6 [.val (.int .i64 0), .val (.int .i64 0), .val (.int .i64 0), .val (.slice none 0 0), .val (.slice none 0 0), .val (.slice none 0 0)]]) _ (⟨os.length, Nat.le_refl _, rfl, rfl, rfl, rfl⟩) (by repeat (first | exact envNil | refine envCons rfl ?_)) (by repeat (first | exact envNil | refine envCons rfl ?_)) (by repeat (first | exact subPnil | refine subPcons 0 rfl ?_)) ?_
              rintro nn E H ⟨i, hi, hp, rfl, rfl, rfl⟩
              dsimp only [List.cons_append, List.nil_append]
              rcases i with _ | i
              · skip
                refine AW.seq ?_
                refine AW.seq ?_
                refine AW.regionD 14 (by kernel_rfl) (by kernel_rfl) ?_
                simp only [List.take_succ_cons, List.take_zero, List.drop_succ_cons, List.drop_zero]
                refine FA.op (O.move rfl rfl) rfl rfl rfl rfl ?_
                refine FA.op (O.gtr rfl rfl rfl (by exact bFalse (by omega))) rfl rfl rfl rfl ?_
                refine FA.op (O.move rfl rfl) rfl rfl rfl rfl ?_
                refine FA.opG rfl rfl rfl rfl (fun hp => O.fieldAddr rfl rfl) ?_
                refine FA.opG rfl rfl rfl rfl (fun hp => OpW.force 118 rfl (by exact hp) (O.load rfl rfl (by repeat (first | exact List.Mem.head _ | refine List.Mem.tail _ ?_)) (by rfl))) ?_
                refine FA.opG rfl rfl rfl rfl (fun hp => O.move rfl rfl) ?_
                refine FA.opG rfl rfl rfl rfl (fun hp => OpW.force 120 rfl (by exact hp) (O.sub rfl rfl rfl (by exact wI64 (by omega)))) ?_
                refine FA.no rfl rfl rfl rfl ?_
                refine FA.no rfl rfl rfl rfl ?_
                refine FA.no rfl rfl rfl rfl ?_
                refine FA.opG rfl rfl rfl rfl (fun hp => O.fieldAddr rfl rfl) ?_
                refine FA.opG rfl rfl rfl rfl (fun hp => OpW.force 125 rfl (by exact hp) (O.load rfl rfl (by repeat (first | exact List.Mem.head _ | refine List.Mem.tail _ ?_)) (by rfl))) ?_
                refine FA.no rfl rfl rfl rfl ?_
                refine FA.op (O.pickF rfl rfl rfl) rfl rfl rfl rfl ?_
                refine FA.nil ?_
                simp only [chosen, List.nil_append, List.cons_append, List.append_nil]
                refine AO.nil ?_
                refine AQ.thenN ?_
                refine AW.split rfl (fun hq => ?_) (fun hq => ?_)
                · skip
                  simp at hq
                · skip
                  obtain ⟨p, hp0⟩ : ∃ p : Nat, p = 0 := ⟨_, rfl⟩
                  refine AW.g ?_
                  refine G.re 15 (.val (.int .i64 (p : Int))) (by rw [hp0]; rfl) ?_
                  refine AW.u ?_
                  have hpp : p = posO os (oat L k).num os.length := by rw [hp0, ← hp]; rfl
                  have hpl : p < os.length := by omega
                  clear hp0 hp
                  refine AW.exit ?_
                  refine AQ.thenX ?_
                  refine AQ.loopX ?_
                  refine AQ.blockX rfl ?_
                  refine AQ.thenN ?_
                  refine AW.seq ?_
                  refine AW.region ?_
                  refine AO.op (O.fieldAddr rfl rfl) rfl rfl rfl ?_
                  refine AO.op (O.load rfl rfl (by repeat (first | exact List.Mem.head _ | refine List.Mem.tail _ ?_)) (by rfl)) rfl rfl rfl ?_
                  refine AO.op (O.move rfl rfl) rfl rfl rfl ?_
                  refine AO.op (O.sliceV rfl rfl rfl rfl ⟨by omega, by omega, by omega⟩ (by omega)) rfl rfl rfl ?_
                  refine AO.opRow (O.appendNil rfl (by rfl) (by rfl) rfl rfl (by exact SrcA.blk TyD.ax (by repeat (first | exact List.Mem.head _ | refine List.Mem.tail _ ?_)) (by (dsimp only [List.set, List.append, List.cons_append, List.nil_append, roB_cells, roI_cells, roO_cells, splice, ofConst, AV.cells, List.map, List.map_cons, List.map_nil, List.take, List.drop, Nat.zero_add, Nat.add_zero, Nat.reduceAdd, Nat.reduceMul, Nat.zero_mul, Value.cells, List.toList_toArray, zerosA, List.replicate, List.flatten, List.append_nil]; done)) (by (simp; omega))) (by exact one_part (optsA_one _) _ _) (by (unfold maxLen; omega)) (by omega)) rfl rfl rfl ?_
                  intro V13 hV13
                  refine AO.op (O.assign rfl rfl) rfl rfl rfl ?_
                  refine AO.nil ?_
                  refine AQ.thenN ?_
                  refine AW.regionS [[(0, false), (1, false), (2, false), (3, false), (4, false), (5, false), (7, false), (6, true)], [(8, true)], [(9, false)], [(10, true)]] (by kernel_rfl) (by kernel_rfl) ?_
                  refine AMS.go (by exact (splitAt' 3 rfl splitNil)) ?_
                  try dsimp only [List.eraseIdx]
                  refine AM.op rfl (O.fieldAddr rfl rfl) rfl rfl rfl ?_
                  refine AM.op rfl (O.load rfl rfl (by repeat (first | exact List.Mem.head _ | refine List.Mem.tail _ ?_)) (by rfl)) rfl rfl rfl ?_
                  refine AM.op rfl (O.move rfl rfl) rfl rfl rfl ?_
                  refine AM.op rfl (O.sliceV rfl rfl rfl rfl ⟨by omega, by omega, by omega⟩ (by omega)) rfl rfl rfl ?_
                  (refine AM.op rfl (O.loadK rfl rfl (by repeat (first | exact List.Mem.head _ | refine List.Mem.tail _ ?_)) (by (dsimp only [List.set, List.append, List.cons_append, List.nil_append, roB_cells, roI_cells, roO_cells, splice, ofConst, AV.cells, List.map, List.map_cons, List.map_nil, List.take, List.drop, Nat.zero_add, Nat.add_zero, Nat.reduceAdd, Nat.reduceMul, Nat.zero_mul, Value.cells, List.toList_toArray, zerosA, List.replicate, List.flatten, List.append_nil]; done)) (by rfl)) rfl rfl rfl ?_)
                  refine AM.op rfl (OpW.frz (O.buildSlice rfl rfl rfl (by rfl) (by rfl) (by rfl) (by rfl)) (by (unfold maxLen; omega))) rfl rfl rfl ?_
                  refine AM.op rfl (O.move rfl rfl) rfl rfl rfl ?_
                  refine AM.main _ rfl (fun w0 R0 => ?_)
                  (refine AO.appendCut (i := 0) rfl rfl rfl rfl (by rfl) (by rfl) rfl rfl rfl (by omega) (by exact SrcA.ro TyD.ax (by rfl) (Nat.le_of_ble_eq_true rfl)) (by rfl) (by (unfold maxLen; omega)) (by omega) ⟨by omega, by assumption⟩ (by (dsimp only [List.set, List.append, List.cons_append, List.nil_append, roB_cells, roI_cells, roO_cells, splice, ofConst, AV.cells, List.map, List.map_cons, List.map_nil, List.take, List.drop, Nat.zero_add, Nat.add_zero, Nat.reduceAdd, Nat.reduceMul, Nat.zero_mul, Value.cells, List.toList_toArray, zerosA, List.replicate, List.flatten, List.append_nil]; done)) (fun _ => by (dsimp only [List.set]; done)) ?_)
                  intro V14 hV14
                  refine AM.ok ?_
                  dsimp only [putE]
                  refine AM.nil ?_
                  try dsimp only [List.cons_append, List.nil_append]
                  refine AMS.go (by exact (splitAt' 0 rfl (splitAt' 0 rfl splitNil))) ?_
                  try dsimp only [List.eraseIdx]
                  refine AM.main _ rfl (fun w0 R0 => ?_)
                  (refine AO.append' (i := 0) rfl rfl rfl rfl (by rfl) (by rfl) rfl rfl rfl (by exact SrcA.row TyD.ax (by repeat (first | exact List.Mem.head _ | refine List.Mem.tail _ ?_)) (by (simp; omega))) (by exact one_part (optsA_one _) _ _) (by (unfold maxLen; omega)) (by omega) (by (dsimp only [List.set, List.append, List.cons_append, List.nil_append, roB_cells, roI_cells, roO_cells, splice, ofConst, AV.cells, List.map, List.map_cons, List.map_nil, List.take, List.drop, Nat.zero_add, Nat.add_zero, Nat.reduceAdd, Nat.reduceMul, Nat.zero_mul, Value.cells, List.toList_toArray, zerosA, List.replicate, List.flatten, List.append_nil]; done)) (fun _ => by (dsimp only [List.set]; done)) ?_)
                  intro V15 hV15
                  refine AM.ok ?_
                  dsimp only [putE]
                  refine AM.nil ?_
                  try dsimp only [List.cons_append, List.nil_append]
                  refine AMS.go (by exact splitNil) ?_
                  try dsimp only [List.eraseIdx]
                  refine AM.op rfl (O.fieldAddr rfl rfl) rfl rfl rfl ?_
                  refine AM.nil ?_
                  try dsimp only [List.cons_append, List.nil_append]
                  refine AMS.go (by exact (by exact splitBlk 145 4 rfl rfl splitNil)) ?_
                  try dsimp only [List.eraseIdx]
                  refine AM.main _ rfl (fun w0 R0 => ?_)
                  (refine AO.store (i := 0) rfl rfl rfl rfl rfl rfl (by (simp [AV.cells, AV.one, *]; done)) (by rfl) (by rfl) (by (dsimp only [List.set, List.append, List.cons_append, List.nil_append, roB_cells, roI_cells, roO_cells, splice, ofConst, AV.cells, List.map, List.map_cons, List.map_nil, List.take, List.drop, Nat.zero_add, Nat.add_zero, Nat.reduceAdd, Nat.reduceMul, Nat.zero_mul, Value.cells, List.toList_toArray, zerosA, List.replicate, List.flatten, List.append_nil]; done)) (by (dsimp only [List.set, List.append, List.cons_append, List.nil_append, roB_cells, roI_cells, roO_cells, splice, ofConst, AV.cells, List.map, List.map_cons, List.map_nil, List.take, List.drop, Nat.zero_add, Nat.add_zero, Nat.reduceAdd, Nat.reduceMul, Nat.zero_mul, Value.cells, List.toList_toArray, zerosA, List.replicate, List.flatten, List.append_nil]; done)) ?_)
                  refine AM.okN ?_
                  dsimp only [putE]
                  refine AM.nil ?_
                  try dsimp only [List.cons_append, List.nil_append]
                  refine AMS.nil ?_
                  refine AQ.blockN ?_
                  refine AQ.thenN ?_
                  refine AW.region ?_
                  refine AO.op (O.add rfl rfl rfl (by exact wI64 (by omega))) rfl rfl rfl ?_
                  refine AO.op (O.move rfl rfl) rfl rfl rfl ?_
                  refine AO.nil ?_
                  refine AQ.g ?_
                  refine G.coeRow 1 (insO os (oat L k)).length (optsA (insO os (oat L k))) rfl (by rw [insO_len]; omega) (CoeL.of_eq ((List.append_assoc _ _ _).trans (ins_cells hpp (by omega) (by omega) (by omega)))) ?_
                  refine AQ.u ?_
                  refine AQ.loopKN _ _ _ (by omega) (⟨k + 1, insO os (oat L k), _, by omega, hsc.symm, ‹_›, fun hh => absurd (congrArg List.length hh) (by rw [insO_len]; simp), rfl, rfl, rfl⟩) (by repeat (first | exact envNil | refine envCons rfl ?_)) (by repeat (first | exact envNil | refine envCons rfl ?_)) (by repeat (first | exact subPnil | refine subPcons 0 rfl ?_ | refine subPcons 1 rfl ?_ | refine subPcons 3 rfl ?_))
              · skip
                refine AW.seq ?_
                refine AW.seq ?_
                refine AW.regionD 14 (by kernel_rfl) (by kernel_rfl) ?_
                simp only [List.take_succ_cons, List.take_zero, List.drop_succ_cons, List.drop_zero]
                refine FA.op (O.move rfl rfl) rfl rfl rfl rfl ?_
                refine FA.op (O.gtr rfl rfl rfl (by exact bTrue (by omega))) rfl rfl rfl rfl ?_
                refine FA.op (O.move rfl rfl) rfl rfl rfl rfl ?_
                refine FA.opG rfl rfl rfl rfl (fun hp => O.fieldAddr rfl rfl) ?_
                refine FA.opG rfl rfl rfl rfl (fun hp => OpW.force 118 rfl (by exact hp) (O.load rfl rfl (by repeat (first | exact List.Mem.head _ | refine List.Mem.tail _ ?_)) (by rfl))) ?_
                refine FA.opG rfl rfl rfl rfl (fun hp => O.move rfl rfl) ?_
                refine FA.opG rfl rfl rfl rfl (fun hp => OpW.force 120 rfl (by exact hp) (O.sub rfl rfl rfl (by exact wI64 (by omega)))) ?_
                refine FA.opG rfl rfl rfl rfl (fun hp => OpW.force 119 rfl (by exact hp) (OpW.force 121 rfl (by exact hp) (O.idxV rfl rfl rfl ⟨(by omega), (by omega)⟩))) ?_
                refine FA.opG rfl rfl rfl rfl (fun hp => OpW.force 122 rfl (by exact hp) (O.fieldAddr rfl rfl)) ?_
                refine FA.opG rfl rfl rfl rfl (fun hp => OpW.force 123 rfl (by exact hp) (O.load rfl rfl (by repeat (first | exact List.Mem.head _ | refine List.Mem.tail _ ?_)) (by exact getOn (k := i) (by omega) (by omega)))) ?_
                refine FA.opG rfl rfl rfl rfl (fun hp => O.fieldAddr rfl rfl) ?_
                refine FA.opG rfl rfl rfl rfl (fun hp => OpW.force 125 rfl (by exact hp) (O.load rfl rfl (by repeat (first | exact List.Mem.head _ | refine List.Mem.tail _ ?_)) (by rfl))) ?_
                refine FA.opG rfl rfl rfl rfl (fun hp => OpW.force 124 rfl (by exact hp) (OpW.force 126 rfl (by exact hp) (O.gtr rfl rfl rfl (by rfl)))) ?_
                refine FA.op (O.pickAnd rfl rfl rfl rfl (fun h => by exact h)) rfl rfl rfl rfl ?_
                refine FA.nil ?_
                simp only [chosen, List.nil_append, List.cons_append, List.append_nil]
                refine AO.nil ?_
                refine AQ.thenN ?_
                refine AW.split rfl (fun hq => ?_) (fun hq => ?_) <;> (try simp only [decide_eq_true_eq, decide_eq_false_iff_not, beq_iff_eq, beq_eq_false_iff_ne, bne_iff_ne, bne_eq_false_iff_eq, Bool.not_eq_true', Bool.not_eq_false', Bool.not_eq_true, Bool.not_eq_false, ne_eq, Int.not_lt, Int.not_le, Bool.and_eq_true, Bool.or_eq_true, Bool.or_eq_false_iff, Bool.and_eq_false_imp, strOf_toList, Decidable.not_not] at hq)
                · skip
                  refine AW.skip ?_
                  refine AQ.thenN ?_
                  refine AW.block ?_
                  refine AW.region ?_
                  refine AO.op (O.move rfl rfl) rfl rfl rfl ?_
                  refine AO.op (O.sub rfl rfl rfl (by exact wI64 (by omega))) rfl rfl rfl ?_
                  refine AO.op (O.assign rfl rfl) rfl rfl rfl ?_
                  refine AO.nil ?_
                  refine AQ.blockN ?_
                  rw [show ((i + 1 : Nat) : Int) - 1 = (i : Int) by omega]
                  refine AQ.loopKN _ _ _ (by omega) (⟨i, by omega, by rw [← hp, posO, if_pos hq.2], rfl, rfl, rfl⟩) (by repeat (first | exact envNil | refine envCons rfl ?_)) (by repeat (first | exact envNil | refine envCons rfl ?_)) (by repeat (first | exact subPnil | refine subPcons 0 rfl ?_))
                · skip
                  have hpp : i + 1 = posO os (oat L k).num os.length := by rw [← hp, posO, if_neg (by have := hq trivial; omega)]
                  clear hp
                  rcases Nat.lt_or_ge (i + 1) os.length with hlt | hge
                  · skip
                    refine AW.exit ?_
                    refine AQ.thenX ?_
                    refine AQ.loopX ?_
                    refine AQ.blockX rfl ?_
                    refine AQ.thenN ?_
                    refine AW.seq ?_
                    refine AW.region ?_
                    refine AO.op (O.fieldAddr rfl rfl) rfl rfl rfl ?_
                    refine AO.op (O.load rfl rfl (by repeat (first | exact List.Mem.head _ | refine List.Mem.tail _ ?_)) (by rfl)) rfl rfl rfl ?_
                    refine AO.op (O.move rfl rfl) rfl rfl rfl ?_
                    refine AO.op (O.sliceV rfl rfl rfl rfl ⟨by omega, by omega, by omega⟩ (by omega)) rfl rfl rfl ?_
                    refine AO.opRow (O.appendNil rfl (by rfl) (by rfl) rfl rfl (by exact SrcA.blk TyD.ax (by repeat (first | exact List.Mem.head _ | refine List.Mem.tail _ ?_)) (by (dsimp only [List.set, List.append, List.cons_append, List.nil_append, roB_cells, roI_cells, roO_cells, splice, ofConst, AV.cells, List.map, List.map_cons, List.map_nil, List.take, List.drop, Nat.zero_add, Nat.add_zero, Nat.reduceAdd, Nat.reduceMul, Nat.zero_mul, Value.cells, List.toList_toArray, zerosA, List.replicate, List.flatten, List.append_nil]; done)) (by (simp; omega))) (by exact one_part (optsA_one _) _ _) (by (unfold maxLen; omega)) (by omega)) rfl rfl rfl ?_
                    intro V13 hV13
                    refine AO.op (O.assign rfl rfl) rfl rfl rfl ?_
                    refine AO.nil ?_
                    refine AQ.thenN ?_
                    refine AW.regionS [[(0, false), (1, false), (2, false), (3, false), (4, false), (5, false), (7, false), (6, true)], [(8, true)], [(9, false)], [(10, true)]] (by kernel_rfl) (by kernel_rfl) ?_
                    refine AMS.go (by exact (splitAt' 3 rfl splitNil)) ?_
                    try dsimp only [List.eraseIdx]
                    refine AM.op rfl (O.fieldAddr rfl rfl) rfl rfl rfl ?_
                    refine AM.op rfl (O.load rfl rfl (by repeat (first | exact List.Mem.head _ | refine List.Mem.tail _ ?_)) (by rfl)) rfl rfl rfl ?_
                    refine AM.op rfl (O.move rfl rfl) rfl rfl rfl ?_
                    refine AM.op rfl (O.sliceV rfl rfl rfl rfl ⟨by omega, by omega, by omega⟩ (by omega)) rfl rfl rfl ?_
                    (refine AM.op rfl (O.loadK rfl rfl (by repeat (first | exact List.Mem.head _ | refine List.Mem.tail _ ?_)) (by (dsimp only [List.set, List.append, List.cons_append, List.nil_append, roB_cells, roI_cells, roO_cells, splice, ofConst, AV.cells, List.map, List.map_cons, List.map_nil, List.take, List.drop, Nat.zero_add, Nat.add_zero, Nat.reduceAdd, Nat.reduceMul, Nat.zero_mul, Value.cells, List.toList_toArray, zerosA, List.replicate, List.flatten, List.append_nil]; done)) (by rfl)) rfl rfl rfl ?_)
                    refine AM.op rfl (OpW.frz (O.buildSlice rfl rfl rfl (by rfl) (by rfl) (by rfl) (by rfl)) (by (unfold maxLen; omega))) rfl rfl rfl ?_
                    refine AM.op rfl (O.move rfl rfl) rfl rfl rfl ?_
                    refine AM.main _ rfl (fun w0 R0 => ?_)
                    (refine AO.appendCut (i := 0) rfl rfl rfl rfl (by rfl) (by rfl) rfl rfl rfl (by omega) (by exact SrcA.ro TyD.ax (by rfl) (Nat.le_of_ble_eq_true rfl)) (by rfl) (by (unfold maxLen; omega)) (by omega) ⟨by omega, by assumption⟩ (by (dsimp only [List.set, List.append, List.cons_append, List.nil_append, roB_cells, roI_cells, roO_cells, splice, ofConst, AV.cells, List.map, List.map_cons, List.map_nil, List.take, List.drop, Nat.zero_add, Nat.add_zero, Nat.reduceAdd, Nat.reduceMul, Nat.zero_mul, Value.cells, List.toList_toArray, zerosA, List.replicate, List.flatten, List.append_nil]; done)) (fun _ => by (dsimp only [List.set]; done)) ?_)
                    intro V14 hV14
                    refine AM.ok ?_
                    dsimp only [putE]
                    refine AM.nil ?_
                    try dsimp only [List.cons_append, List.nil_append]
                    refine AMS.go (by exact (splitAt' 0 rfl (splitAt' 0 rfl splitNil))) ?_
                    try dsimp only [List.eraseIdx]
                    refine AM.main _ rfl (fun w0 R0 => ?_)
                    (refine AO.append' (i := 0) rfl rfl rfl rfl (by rfl) (by rfl) rfl rfl rfl (by exact SrcA.row TyD.ax (by repeat (first | exact List.Mem.head _ | refine List.Mem.tail _ ?_)) (by (simp; omega))) (by exact one_part (optsA_one _) _ _) (by (unfold maxLen; omega)) (by omega) (by (dsimp only [List.set, List.append, List.cons_append, List.nil_append, roB_cells, roI_cells, roO_cells, splice, ofConst, AV.cells, List.map, List.map_cons, List.map_nil, List.take, List.drop, Nat.zero_add, Nat.add_zero, Nat.reduceAdd, Nat.reduceMul, Nat.zero_mul, Value.cells, List.toList_toArray, zerosA, List.replicate, List.flatten, List.append_nil]; done)) (fun _ => by (dsimp only [List.set]; done)) ?_)
                    intro V15 hV15
                    refine AM.ok ?_
                    dsimp only [putE]
                    refine AM.nil ?_
                    try dsimp only [List.cons_append, List.nil_append]
                    refine AMS.go (by exact splitNil) ?_
                    try dsimp only [List.eraseIdx]
                    refine AM.op rfl (O.fieldAddr rfl rfl) rfl rfl rfl ?_
                    refine AM.nil ?_
                    try dsimp only [List.cons_append, List.nil_append]
                    refine AMS.go (by exact (by exact splitBlk 145 4 rfl rfl splitNil)) ?_
                    try dsimp only [List.eraseIdx]
                    refine AM.main _ rfl (fun w0 R0 => ?_)
                    (refine AO.store (i := 0) rfl rfl rfl rfl rfl rfl (by (simp [AV.cells, AV.one, *]; done)) (by rfl) (by rfl) (by (dsimp only [List.set, List.append, List.cons_append, List.nil_append, roB_cells, roI_cells, roO_cells, splice, ofConst, AV.cells, List.map, List.map_cons, List.map_nil, List.take, List.drop, Nat.zero_add, Nat.add_zero, Nat.reduceAdd, Nat.reduceMul, Nat.zero_mul, Value.cells, List.toList_toArray, zerosA, List.replicate, List.flatten, List.append_nil]; done)) (by (dsimp only [List.set, List.append, List.cons_append, List.nil_append, roB_cells, roI_cells, roO_cells, splice, ofConst, AV.cells, List.map, List.map_cons, List.map_nil, List.take, List.drop, Nat.zero_add, Nat.add_zero, Nat.reduceAdd, Nat.reduceMul, Nat.zero_mul, Value.cells, List.toList_toArray, zerosA, List.replicate, List.flatten, List.append_nil]; done)) ?_)
                    refine AM.okN ?_
                    dsimp only [putE]
                    refine AM.nil ?_
                    try dsimp only [List.cons_append, List.nil_append]
                    refine AMS.nil ?_
                    refine AQ.blockN ?_
                    refine AQ.thenN ?_
                    refine AW.region ?_
                    refine AO.op (O.add rfl rfl rfl (by exact wI64 (by omega))) rfl rfl rfl ?_
                    refine AO.op (O.move rfl rfl) rfl rfl rfl ?_
                    refine AO.nil ?_
                    refine AQ.g ?_
                    refine G.coeRow 1 (insO os (oat L k)).length (optsA (insO os (oat L k))) rfl (by rw [insO_len]; omega) (CoeL.of_eq ((List.append_assoc _ _ _).trans (ins_cells hpp (by omega) (by omega) (by omega)))) ?_
                    refine AQ.u ?_
                    refine AQ.loopKN _ _ _ (by omega) (⟨k + 1, insO os (oat L k), _, by omega, hsc.symm, ‹_›, fun hh => absurd (congrArg List.length hh) (by rw [insO_len]; simp), rfl, rfl, rfl⟩) (by repeat (first | exact envNil | refine envCons rfl ?_)) (by repeat (first | exact envNil | refine envCons rfl ?_)) (by repeat (first | exact subPnil | refine subPcons 0 rfl ?_ | refine subPcons 1 rfl ?_ | refine subPcons 3 rfl ?_))
                  · skip
                    refine AW.exit ?_
                    refine AQ.thenX ?_
                    refine AQ.loopX ?_
                    refine AQ.blockX rfl ?_
                    refine AQ.thenN ?_
                    refine AW.seq ?_
                    refine AW.region ?_
                    refine AO.op (O.fieldAddr rfl rfl) rfl rfl rfl ?_
                    refine AO.op (O.load rfl rfl (by repeat (first | exact List.Mem.head _ | refine List.Mem.tail _ ?_)) (by rfl)) rfl rfl rfl ?_
                    refine AO.op (O.move rfl rfl) rfl rfl rfl ?_
                    refine AO.op (O.sliceV0 rfl rfl rfl rfl ⟨by omega, by omega, by omega⟩ (by omega) (by assumption)) rfl rfl rfl ?_
                    refine AO.opRow (O.appendNil rfl (by rfl) (by rfl) rfl rfl (by exact SrcA.ro TyD.ax (by rfl) (Nat.le_of_ble_eq_true rfl)) (by rfl) (by (unfold maxLen; omega)) (by omega)) rfl rfl rfl ?_
                    intro V13 hV13
                    refine AO.op (O.assign rfl rfl) rfl rfl rfl ?_
                    refine AO.nil ?_
                    refine AQ.thenN ?_
                    refine AW.regionS [[(0, false), (1, false), (2, false), (3, false), (4, false), (5, false), (7, false), (6, true)], [(8, true)], [(9, false)], [(10, true)]] (by kernel_rfl) (by kernel_rfl) ?_
                    refine AMS.go (by exact (splitAt' 3 rfl splitNil)) ?_
                    try dsimp only [List.eraseIdx]
                    refine AM.op rfl (O.fieldAddr rfl rfl) rfl rfl rfl ?_
                    refine AM.op rfl (O.load rfl rfl (by repeat (first | exact List.Mem.head _ | refine List.Mem.tail _ ?_)) (by rfl)) rfl rfl rfl ?_
                    refine AM.op rfl (O.move rfl rfl) rfl rfl rfl ?_
                    refine AM.op rfl (O.sliceV rfl rfl rfl rfl ⟨by omega, by omega, by omega⟩ (by omega)) rfl rfl rfl ?_
                    (refine AM.op rfl (O.loadK rfl rfl (by repeat (first | exact List.Mem.head _ | refine List.Mem.tail _ ?_)) (by (dsimp only [List.set, List.append, List.cons_append, List.nil_append, roB_cells, roI_cells, roO_cells, splice, ofConst, AV.cells, List.map, List.map_cons, List.map_nil, List.take, List.drop, Nat.zero_add, Nat.add_zero, Nat.reduceAdd, Nat.reduceMul, Nat.zero_mul, Value.cells, List.toList_toArray, zerosA, List.replicate, List.flatten, List.append_nil]; done)) (by rfl)) rfl rfl rfl ?_)
                    refine AM.op rfl (OpW.frz (O.buildSlice rfl rfl rfl (by rfl) (by rfl) (by rfl) (by rfl)) (by (unfold maxLen; omega))) rfl rfl rfl ?_
                    refine AM.op rfl (O.move rfl rfl) rfl rfl rfl ?_
                    refine AM.main _ rfl (fun w0 R0 => ?_)
                    (refine AO.appendCut (i := 0) rfl rfl rfl rfl (by rfl) (by rfl) rfl rfl rfl (by omega) (by exact SrcA.ro TyD.ax (by rfl) (Nat.le_of_ble_eq_true rfl)) (by rfl) (by (unfold maxLen; omega)) (by omega) ⟨by omega, by assumption⟩ (by (dsimp only [List.set, List.append, List.cons_append, List.nil_append, roB_cells, roI_cells, roO_cells, splice, ofConst, AV.cells, List.map, List.map_cons, List.map_nil, List.take, List.drop, Nat.zero_add, Nat.add_zero, Nat.reduceAdd, Nat.reduceMul, Nat.zero_mul, Value.cells, List.toList_toArray, zerosA, List.replicate, List.flatten, List.append_nil]; done)) (fun _ => by (dsimp only [List.set]; done)) ?_)
                    intro V14 hV14
                    refine AM.ok ?_
                    dsimp only [putE]
                    refine AM.nil ?_
                    try dsimp only [List.cons_append, List.nil_append]
                    refine AMS.go (by exact (splitAt' 0 rfl (splitAt' 0 rfl splitNil))) ?_
                    try dsimp only [List.eraseIdx]
                    refine AM.main _ rfl (fun w0 R0 => ?_)
                    (refine AO.append' (i := 0) rfl rfl rfl rfl (by rfl) (by rfl) rfl rfl rfl (by exact SrcA.row TyD.ax (by repeat (first | exact List.Mem.head _ | refine List.Mem.tail _ ?_)) (by rfl)) (by rfl) (by (unfold maxLen; omega)) (by omega) (by (dsimp only [List.set, List.append, List.cons_append, List.nil_append, roB_cells, roI_cells, roO_cells, splice, ofConst, AV.cells, List.map, List.map_cons, List.map_nil, List.take, List.drop, Nat.zero_add, Nat.add_zero, Nat.reduceAdd, Nat.reduceMul, Nat.zero_mul, Value.cells, List.toList_toArray, zerosA, List.replicate, List.flatten, List.append_nil]; done)) (fun _ => by (dsimp only [List.set]; done)) ?_)
                    intro V15 hV15
                    refine AM.ok ?_
                    dsimp only [putE]
                    refine AM.nil ?_
                    try dsimp only [List.cons_append, List.nil_append]
                    refine AMS.go (by exact splitNil) ?_
                    try dsimp only [List.eraseIdx]
                    refine AM.op rfl (O.fieldAddr rfl rfl) rfl rfl rfl ?_
                    refine AM.nil ?_
                    try dsimp only [List.cons_append, List.nil_append]
                    refine AMS.go (by exact (by exact splitBlk 145 4 rfl rfl splitNil)) ?_
                    try dsimp only [List.eraseIdx]
                    refine AM.main _ rfl (fun w0 R0 => ?_)
                    (refine AO.store (i := 0) rfl rfl rfl rfl rfl rfl (by (simp [AV.cells, AV.one, *]; done)) (by rfl) (by rfl) (by (dsimp only [List.set, List.append, List.cons_append, List.nil_append, roB_cells, roI_cells, roO_cells, splice, ofConst, AV.cells, List.map, List.map_cons, List.map_nil, List.take, List.drop, Nat.zero_add, Nat.add_zero, Nat.reduceAdd, Nat.reduceMul, Nat.zero_mul, Value.cells, List.toList_toArray, zerosA, List.replicate, List.flatten, List.append_nil]; done)) (by (dsimp only [List.set, List.append, List.cons_append, List.nil_append, roB_cells, roI_cells, roO_cells, splice, ofConst, AV.cells, List.map, List.map_cons, List.map_nil, List.take, List.drop, Nat.zero_add, Nat.add_zero, Nat.reduceAdd, Nat.reduceMul, Nat.zero_mul, Value.cells, List.toList_toArray, zerosA, List.replicate, List.flatten, List.append_nil]; done)) ?_)
                    refine AM.okN ?_
                    dsimp only [putE]
                    refine AM.nil ?_
                    try dsimp only [List.cons_append, List.nil_append]
                    refine AMS.nil ?_
                    refine AQ.blockN ?_
                    refine AQ.thenN ?_
                    refine AW.region ?_
                    refine AO.op (O.add rfl rfl rfl (by exact wI64 (by omega))) rfl rfl rfl ?_
                    refine AO.op (O.move rfl rfl) rfl rfl rfl ?_
                    refine AO.nil ?_
                    refine AQ.g ?_
                    refine G.coeRow 1 (insO os (oat L k)).length (optsA (insO os (oat L k))) rfl (by rw [insO_len]; omega) (CoeL.of_eq ((List.append_nil _).trans (ins_cells1 hpp (by omega) (by omega)))) ?_
                    refine AQ.u ?_
                    refine AQ.loopKN _ _ _ (by omega) (⟨k + 1, insO os (oat L k), _, by omega, hsc.symm, ‹_›, fun hh => absurd (congrArg List.length hh) (by rw [insO_len]; simp), rfl, rfl, rfl⟩) (by repeat (first | exact envNil | refine envCons rfl ?_)) (by repeat (first | exact envNil | refine envCons rfl ?_)) (by repeat (first | exact subPnil | refine subPcons 0 rfl ?_ | refine subPcons 1 rfl ?_ | refine subPcons 3 rfl ?_))
                    skip
          · skip
            have hoe : os = insAll L := by rw [hos, List.take_of_length_le (by omega)]
            subst hoe
            refine AW.g ?_
            refine G.freezeCell 0 0 4 rfl rfl rfl ?_
            refine AW.u ?_
            refine AW.exit ?_
            refine AQ.thenX ?_
            refine AQ.loopX ?_
            refine AQ.blockX rfl ?_
            refine AQ.thenN ?_
            refine AW.seq ?_
            refine AW.region ?_
            (refine AO.op (O.loadK rfl rfl (by repeat (exact List.Mem.head _)) (by (dsimp only [List.set, List.append, List.cons_append, List.nil_append, roB_cells, roI_cells, roO_cells, splice, ofConst, AV.cells, List.map, List.map_cons, List.map_nil, List.take, List.drop, Nat.zero_add, Nat.add_zero, Nat.reduceAdd, Nat.reduceMul, Nat.zero_mul, Value.cells, List.toList_toArray, zerosA, List.replicate, List.flatten, List.append_nil]; done)) (by rfl)) rfl rfl rfl ?_)
            (refine AO.store (i := 1) rfl rfl rfl rfl rfl rfl (by rfl) (by rfl) (by rfl) (by (dsimp only [List.set, List.append, List.cons_append, List.nil_append, roB_cells, roI_cells, roO_cells, splice, ofConst, AV.cells, List.map, List.map_cons, List.map_nil, List.take, List.drop, Nat.zero_add, Nat.add_zero, Nat.reduceAdd, Nat.reduceMul, Nat.zero_mul, Value.cells, List.toList_toArray, zerosA, List.replicate, List.flatten, List.append_nil]; done)) (by (dsimp only [List.set, List.append, List.cons_append, List.nil_append, roB_cells, roI_cells, roO_cells, splice, ofConst, AV.cells, List.map, List.map_cons, List.map_nil, List.take, List.drop, Nat.zero_add, Nat.add_zero, Nat.reduceAdd, Nat.reduceMul, Nat.zero_mul, Value.cells, List.toList_toArray, zerosA, List.replicate, List.flatten, List.append_nil]; done)) ?_)
            refine AO.op (O.assign rfl rfl) rfl rfl rfl ?_
            refine AO.nil ?_
            refine AQ.thenN ?_
            refine AW.ret ?_
            refine FnQ.coe (AQ.retCT rfl rfl rfl (by repeat (first | exact List.Mem.head _ | refine List.Mem.tail _ ?_)) (by (dsimp only [List.set, List.append, List.cons_append, List.nil_append, roB_cells, roI_cells, roO_cells, splice, ofConst, AV.cells, List.map, List.map_cons, List.map_nil, List.take, List.drop, Nat.zero_add, Nat.add_zero, Nat.reduceAdd, Nat.reduceMul, Nat.zero_mul, Value.cells, List.toList_toArray, zerosA, List.replicate, List.flatten, List.append_nil]; done)) (by rfl) ⟨_, List.nil_sublist _, .nil⟩ ⟨rfl, rfl⟩) (Coe.tup (by (repeat (first | exact CoeL.nil | refine CoeL.cons Coe.rfl ?_)); done)) (ret2M e)
end Go.Proofs.Ytbmndjjaaeambaa.By
