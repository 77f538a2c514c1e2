/-
  Layer 15: Valid, Size, Encode, both.
-/
import Derived.Test.YtiddmpmpjdnmeaaCod
namespace Go.Proofs.Ytiddmpmpjdnmeaa.By
open Go.RowKit L A
set_option linter.unusedVariables false
set_option linter.unusedSimpArgs false
attribute [local irreducible] AW AQ AO

def encR (m : Msg) : List UInt8 × Int := if ValM m then (raw m, 0) else ([], 1)
theorem encR_t {m : Msg} (h : ValM m) : encR m = (raw m, 0) := if_pos h
theorem encR_f {m : Msg} (h : ¬ValM m) : encR m = ([], 1) := if_neg h
set_option maxRecDepth 20000 in
set_option maxHeartbeats 4000000 in
theorem valid_fn (m : Msg) : Sp Try.prog 22 [aggM m] [] (Is (.val (.bool (decide (ValM m))))) := by
  refine Sp.enter Try.func22 rfl _ Try.ntmps22 rfl (fun w0 R0 => ?_)
  refine AW.seq ?_
  refine AW.region ?_
  refine AO.opB (O.box rfl rfl rfl rfl rfl) rfl rfl rfl ?_
  intro B1
  refine AO.op (O.assign rfl rfl) rfl rfl rfl ?_
  refine AO.nil ?_
  refine AQ.thenN ?_
  refine AW.seq ?_
  refine AW.region ?_
  first | (refine AO.op (O.loadRK rfl rfl (by first | exact getO (by omega) (by omega) | (dsimp only [List.take, List.drop]; rfl)) (by rfl)) rfl rfl rfl ?_) | (refine AO.op (O.loadK rfl rfl (by repeat (first | exact List.Mem.head _ | refine List.Mem.tail _ ?_)) (by first | exact getO (by omega) (by omega) | (dsimp only [List.take, List.drop]; rfl)) (by rfl)) rfl rfl rfl ?_) | (refine AO.op (O.loadK rfl rfl (by repeat (first | exact List.Mem.head _ | refine List.Mem.tail _ ?_)) (by first | (dsimp only [List.set, List.append, List.cons_append, List.nil_append, roB_cells, roI_cells, roO_cells, splice, ofConst, AV.cells, List.map, List.map_cons, List.map_nil, List.take, List.drop, Nat.zero_add, Nat.add_zero, Nat.reduceAdd, Nat.reduceMul, Nat.zero_mul, Value.cells, List.toList_toArray, zerosA, List.replicate, List.flatten, List.append_nil]; rfl) | (dsimp only [List.set, List.append, List.cons_append, List.nil_append, roB_cells, roI_cells, roO_cells, splice, ofConst, AV.cells, List.map, List.map_cons, List.map_nil, List.take, List.drop, Nat.zero_add, Nat.add_zero, Nat.reduceAdd, Nat.reduceMul, Nat.zero_mul, Value.cells, List.toList_toArray, zerosA, List.replicate, List.flatten, List.append_nil]; done) | rfl) (by rfl)) rfl rfl rfl ?_)
  first | (refine AO.op (O.call rfl Try.func42 rfl rfl rfl (sound_fn m)) rfl rfl rfl ?_) | (refine AO.op (O.callC rfl Try.func42 rfl rfl rfl (sound_fn m) (by repeat (first | exact CoeL.nil | refine CoeL.cons Coe.rfl ?_ | refine CoeL.cons Coe.nil ?_ | refine CoeL.cons Coe.unfull ?_ | refine CoeL.cons (Coe.agg ?_) ?_ | refine CoeL.cons (Coe.tup ?_) ?_))) rfl rfl rfl ?_) | (refine AO.op (O.callL rfl Try.func42 rfl rfl rfl (by repeat (first | exact List.Mem.head _ | refine List.Mem.tail _ ?_)) (sound_fn m) (by repeat (first | exact LendL.nil | refine LendL.same ?_ | refine LendL.lend ?_))) rfl rfl rfl ?_)
  refine AO.op (O.move rfl rfl) rfl rfl rfl ?_
  first | (refine AO.opG rfl rfl rfl (fun hp => O.loadRK rfl rfl (by first | exact getO (by omega) (by omega) | (dsimp only [List.take, List.drop]; rfl)) (by rfl)) ?_) | (refine AO.opG rfl rfl rfl (fun hp => O.loadK rfl rfl (by repeat (first | exact List.Mem.head _ | refine List.Mem.tail _ ?_)) (by first | exact getO (by omega) (by omega) | (dsimp only [List.take, List.drop]; rfl)) (by rfl)) ?_) | (refine AO.opG rfl rfl rfl (fun hp => O.loadK rfl rfl (by repeat (first | exact List.Mem.head _ | refine List.Mem.tail _ ?_)) (by first | (dsimp only [List.set, List.append, List.cons_append, List.nil_append, roB_cells, roI_cells, roO_cells, splice, ofConst, AV.cells, List.map, List.map_cons, List.map_nil, List.take, List.drop, Nat.zero_add, Nat.add_zero, Nat.reduceAdd, Nat.reduceMul, Nat.zero_mul, Value.cells, List.toList_toArray, zerosA, List.replicate, List.flatten, List.append_nil]; rfl) | (dsimp only [List.set, List.append, List.cons_append, List.nil_append, roB_cells, roI_cells, roO_cells, splice, ofConst, AV.cells, List.map, List.map_cons, List.map_nil, List.take, List.drop, Nat.zero_add, Nat.add_zero, Nat.reduceAdd, Nat.reduceMul, Nat.zero_mul, Value.cells, List.toList_toArray, zerosA, List.replicate, List.flatten, List.append_nil]; done) | rfl) (by rfl)) ?_) | (refine AO.op (O.loadRK rfl rfl (by first | exact getO (by omega) (by omega) | (dsimp only [List.take, List.drop]; rfl)) (by rfl)) rfl rfl rfl ?_) | (refine AO.op (O.loadK rfl rfl (by repeat (first | exact List.Mem.head _ | refine List.Mem.tail _ ?_)) (by first | exact getO (by omega) (by omega) | (dsimp only [List.take, List.drop]; rfl)) (by rfl)) rfl rfl rfl ?_) | (refine AO.op (O.loadK rfl rfl (by repeat (first | exact List.Mem.head _ | refine List.Mem.tail _ ?_)) (by first | (dsimp only [List.set, List.append, List.cons_append, List.nil_append, roB_cells, roI_cells, roO_cells, splice, ofConst, AV.cells, List.map, List.map_cons, List.map_nil, List.take, List.drop, Nat.zero_add, Nat.add_zero, Nat.reduceAdd, Nat.reduceMul, Nat.zero_mul, Value.cells, List.toList_toArray, zerosA, List.replicate, List.flatten, List.append_nil]; rfl) | (dsimp only [List.set, List.append, List.cons_append, List.nil_append, roB_cells, roI_cells, roO_cells, splice, ofConst, AV.cells, List.map, List.map_cons, List.map_nil, List.take, List.drop, Nat.zero_add, Nat.add_zero, Nat.reduceAdd, Nat.reduceMul, Nat.zero_mul, Value.cells, List.toList_toArray, zerosA, List.replicate, List.flatten, List.append_nil]; done) | rfl) (by rfl)) rfl rfl rfl ?_) | (refine AO.no rfl rfl rfl ?_)
  first | (refine AO.opG rfl rfl rfl (fun hp => OpW.force 6 rfl (by first | exact hp | simp_all) (O.call rfl Try.func44 rfl rfl rfl (encode_fn m (by simpa using hp)))) ?_) | (refine AO.opG rfl rfl rfl (fun hp => OpW.force 6 rfl (by first | exact hp | simp_all) (O.call rfl Try.func44 rfl rfl rfl (encode_fn m hm))) ?_) | (refine AO.opG rfl rfl rfl (fun hp => OpW.force 6 rfl (by first | exact hp | simp_all) (O.callC rfl Try.func44 rfl rfl rfl (encode_fn m (by simpa using hp)) (by repeat (first | exact CoeL.nil | refine CoeL.cons Coe.rfl ?_ | refine CoeL.cons Coe.nil ?_ | refine CoeL.cons Coe.unfull ?_ | refine CoeL.cons (Coe.agg ?_) ?_ | refine CoeL.cons (Coe.tup ?_) ?_)))) ?_) | (refine AO.opG rfl rfl rfl (fun hp => OpW.force 6 rfl (by first | exact hp | simp_all) (O.callC rfl Try.func44 rfl rfl rfl (encode_fn m hm) (by repeat (first | exact CoeL.nil | refine CoeL.cons Coe.rfl ?_ | refine CoeL.cons Coe.nil ?_ | refine CoeL.cons Coe.unfull ?_ | refine CoeL.cons (Coe.agg ?_) ?_ | refine CoeL.cons (Coe.tup ?_) ?_)))) ?_) | (refine AO.op (O.call rfl Try.func44 rfl rfl rfl (encode_fn m (by simpa using hp))) rfl rfl rfl ?_) | (refine AO.op (O.call rfl Try.func44 rfl rfl rfl (encode_fn m hm)) rfl rfl rfl ?_) | (refine AO.op (O.callC rfl Try.func44 rfl rfl rfl (encode_fn m (by simpa using hp)) (by repeat (first | exact CoeL.nil | refine CoeL.cons Coe.rfl ?_ | refine CoeL.cons Coe.nil ?_ | refine CoeL.cons Coe.unfull ?_ | refine CoeL.cons (Coe.agg ?_) ?_ | refine CoeL.cons (Coe.tup ?_) ?_))) rfl rfl rfl ?_) | (refine AO.op (O.callC rfl Try.func44 rfl rfl rfl (encode_fn m hm) (by repeat (first | exact CoeL.nil | refine CoeL.cons Coe.rfl ?_ | refine CoeL.cons Coe.nil ?_ | refine CoeL.cons Coe.unfull ?_ | refine CoeL.cons (Coe.agg ?_) ?_ | refine CoeL.cons (Coe.tup ?_) ?_))) rfl rfl rfl ?_) | (refine AO.no rfl rfl rfl ?_)
  first | (refine AO.opG rfl rfl rfl (fun hp => OpW.force 7 rfl (by first | exact hp | simp_all) (O.lenR rfl rfl)) ?_) | (refine AO.opG rfl rfl rfl (fun hp => OpW.force 7 rfl (by first | exact hp | simp_all) (O.lenV rfl rfl)) ?_) | (refine AO.opG rfl rfl rfl (fun hp => OpW.force 7 rfl (by first | exact hp | simp_all) (O.lenRow rfl rfl (by repeat (first | exact List.Mem.head _ | refine List.Mem.tail _ ?_)))) ?_) | (refine AO.opG rfl rfl rfl (fun hp => OpW.force 7 rfl (by first | exact hp | simp_all) (O.lenS rfl rfl)) ?_) | (refine AO.op (O.lenR rfl rfl) rfl rfl rfl ?_) | (refine AO.op (O.lenV rfl rfl) rfl rfl rfl ?_) | (refine AO.op (O.lenRow rfl rfl (by repeat (first | exact List.Mem.head _ | refine List.Mem.tail _ ?_))) rfl rfl rfl ?_) | (refine AO.op (O.lenS rfl rfl) rfl rfl rfl ?_) | (refine AO.no rfl rfl rfl ?_)
  first | (refine AO.opG rfl rfl rfl (fun hp => OpW.force 8 rfl (by first | exact hp | simp_all) (O.leq rfl rfl rfl (by first | exact bTrue (by omega) | exact bFalse (by omega) | assumption | rfl))) ?_) | (refine AO.op (O.leq rfl rfl rfl (by first | exact bTrue (by omega) | exact bFalse (by omega) | assumption | rfl)) rfl rfl rfl ?_) | (refine AO.no rfl rfl rfl ?_)
  first | (refine AO.op (O.pickAnd rfl rfl rfl rfl (fun h => by first | exact h | simp_all)) rfl rfl rfl ?_) | (refine AO.op (O.pickF rfl rfl rfl) rfl rfl rfl ?_) | (refine AO.op (O.pickT rfl rfl rfl) rfl rfl rfl ?_)
  refine AO.op (O.assign rfl rfl) rfl rfl rfl ?_
  refine AO.nil ?_
  refine AQ.thenN ?_
  refine AW.ret ?_
  have e2 : decide (ValM m) = (decide (OkM m) && decide (((raw m).length : Int) ≤ 4096)) := dec_eq (by simp [ValM])
  refine AQ.ret1 rfl rfl ⟨_, List.nil_sublist _, .nil⟩ (⟨congrArg (fun z => AV.val (.bool z)) e2.symm, rfl⟩)
set_option maxHeartbeats 4000000 in
theorem enc_fn (m : Msg) : Sp Try.prog 20 [aggM m] [] (Is (.tup [roB (encR m).1, .val (.int .i64 (encR m).2)])) := by
  refine Sp.enter Try.func20 rfl _ Try.ntmps20 rfl (fun w0 R0 => ?_)
  refine AW.seq ?_
  refine AW.region ?_
  refine AO.opB (O.box rfl rfl rfl rfl rfl) rfl rfl rfl ?_
  intro B1
  refine AO.op (O.assign rfl rfl) rfl rfl rfl ?_
  refine AO.op (O.assign rfl rfl) rfl rfl rfl ?_
  refine AO.nil ?_
  refine AQ.thenN ?_
  refine AW.seq ?_
  refine AW.seq ?_
  refine AW.region ?_
  first | (refine AO.op (O.loadRK rfl rfl (by first | exact getO (by omega) (by omega) | (dsimp only [List.take, List.drop]; rfl)) (by rfl)) rfl rfl rfl ?_) | (refine AO.op (O.loadK rfl rfl (by repeat (first | exact List.Mem.head _ | refine List.Mem.tail _ ?_)) (by first | exact getO (by omega) (by omega) | (dsimp only [List.take, List.drop]; rfl)) (by rfl)) rfl rfl rfl ?_) | (refine AO.op (O.loadK rfl rfl (by repeat (first | exact List.Mem.head _ | refine List.Mem.tail _ ?_)) (by first | (dsimp only [List.set, List.append, List.cons_append, List.nil_append, roB_cells, roI_cells, roO_cells, splice, ofConst, AV.cells, List.map, List.map_cons, List.map_nil, List.take, List.drop, Nat.zero_add, Nat.add_zero, Nat.reduceAdd, Nat.reduceMul, Nat.zero_mul, Value.cells, List.toList_toArray, zerosA, List.replicate, List.flatten, List.append_nil]; rfl) | (dsimp only [List.set, List.append, List.cons_append, List.nil_append, roB_cells, roI_cells, roO_cells, splice, ofConst, AV.cells, List.map, List.map_cons, List.map_nil, List.take, List.drop, Nat.zero_add, Nat.add_zero, Nat.reduceAdd, Nat.reduceMul, Nat.zero_mul, Value.cells, List.toList_toArray, zerosA, List.replicate, List.flatten, List.append_nil]; done) | rfl) (by rfl)) rfl rfl rfl ?_)
  first | (refine AO.op (O.call rfl Try.func42 rfl rfl rfl (sound_fn m)) rfl rfl rfl ?_) | (refine AO.op (O.callC rfl Try.func42 rfl rfl rfl (sound_fn m) (by repeat (first | exact CoeL.nil | refine CoeL.cons Coe.rfl ?_ | refine CoeL.cons Coe.nil ?_ | refine CoeL.cons Coe.unfull ?_ | refine CoeL.cons (Coe.agg ?_) ?_ | refine CoeL.cons (Coe.tup ?_) ?_))) rfl rfl rfl ?_) | (refine AO.op (O.callL rfl Try.func42 rfl rfl rfl (by repeat (first | exact List.Mem.head _ | refine List.Mem.tail _ ?_)) (sound_fn m) (by repeat (first | exact LendL.nil | refine LendL.same ?_ | refine LendL.lend ?_))) rfl rfl rfl ?_)
  refine AO.op (O.not rfl rfl (by first | assumption | rfl)) rfl rfl rfl ?_
  refine AO.nil ?_
  refine AQ.thenN ?_
  refine AW.split rfl (fun h => ?_) (fun h => ?_) <;> (try simp only [decide_eq_true_eq, decide_eq_false_iff_not, beq_iff_eq, beq_eq_false_iff_ne, bne_iff_ne, bne_eq_false_iff_eq, Bool.not_eq_true', Bool.not_eq_false', Bool.not_eq_true, Bool.not_eq_false, ne_eq, Int.not_lt, Int.not_le, Bool.and_eq_true, Bool.or_eq_true, Bool.or_eq_false_iff, Bool.and_eq_false_imp, strOf_toList, Decidable.not_not] at h)
  · skip
    have e : encR m = ([], 1) := encR_f fun hv => h hv.1
    refine AW.seq ?_
    refine AW.region ?_
    refine AO.op (O.assign rfl rfl) rfl rfl rfl ?_
    refine AO.op (O.assign rfl rfl) rfl rfl rfl ?_
    refine AO.nil ?_
    refine AQ.thenN ?_
    refine AW.ret ?_
    refine AQ.thenR ?_
    refine FnQ.coe (AQ.ret2 rfl rfl rfl ⟨_, List.nil_sublist _, .nil⟩ ⟨rfl, rfl⟩) (Coe.tup (by repeat (first | exact CoeL.nil | refine CoeL.cons Coe.rfl ?_ | refine CoeL.cons Coe.nil ?_ | refine CoeL.cons Coe.unfull ?_ | refine CoeL.cons (Coe.agg ?_) ?_ | refine CoeL.cons (Coe.tup ?_) ?_))) (⟨congrArg (fun z : List UInt8 × Int => AV.tup [roB z.1, .val (.int .i64 z.2)]) e.symm, rfl⟩)
  · skip
    have hm : OkM m := h
    have hl := raw_len hm
    refine AW.skip ?_
    refine AQ.thenN ?_
    refine AW.seq ?_
    refine AW.region ?_
    first | (refine AO.op (O.loadRK rfl rfl (by first | exact getO (by omega) (by omega) | (dsimp only [List.take, List.drop]; rfl)) (by rfl)) rfl rfl rfl ?_) | (refine AO.op (O.loadK rfl rfl (by repeat (first | exact List.Mem.head _ | refine List.Mem.tail _ ?_)) (by first | exact getO (by omega) (by omega) | (dsimp only [List.take, List.drop]; rfl)) (by rfl)) rfl rfl rfl ?_) | (refine AO.op (O.loadK rfl rfl (by repeat (first | exact List.Mem.head _ | refine List.Mem.tail _ ?_)) (by first | (dsimp only [List.set, List.append, List.cons_append, List.nil_append, roB_cells, roI_cells, roO_cells, splice, ofConst, AV.cells, List.map, List.map_cons, List.map_nil, List.take, List.drop, Nat.zero_add, Nat.add_zero, Nat.reduceAdd, Nat.reduceMul, Nat.zero_mul, Value.cells, List.toList_toArray, zerosA, List.replicate, List.flatten, List.append_nil]; rfl) | (dsimp only [List.set, List.append, List.cons_append, List.nil_append, roB_cells, roI_cells, roO_cells, splice, ofConst, AV.cells, List.map, List.map_cons, List.map_nil, List.take, List.drop, Nat.zero_add, Nat.add_zero, Nat.reduceAdd, Nat.reduceMul, Nat.zero_mul, Value.cells, List.toList_toArray, zerosA, List.replicate, List.flatten, List.append_nil]; done) | rfl) (by rfl)) rfl rfl rfl ?_)
    first | (refine AO.op (O.call rfl Try.func44 rfl rfl rfl (encode_fn m (by simpa using hp))) rfl rfl rfl ?_) | (refine AO.op (O.call rfl Try.func44 rfl rfl rfl (encode_fn m hm)) rfl rfl rfl ?_) | (refine AO.op (O.callC rfl Try.func44 rfl rfl rfl (encode_fn m (by simpa using hp)) (by repeat (first | exact CoeL.nil | refine CoeL.cons Coe.rfl ?_ | refine CoeL.cons Coe.nil ?_ | refine CoeL.cons Coe.unfull ?_ | refine CoeL.cons (Coe.agg ?_) ?_ | refine CoeL.cons (Coe.tup ?_) ?_))) rfl rfl rfl ?_) | (refine AO.op (O.callC rfl Try.func44 rfl rfl rfl (encode_fn m hm) (by repeat (first | exact CoeL.nil | refine CoeL.cons Coe.rfl ?_ | refine CoeL.cons Coe.nil ?_ | refine CoeL.cons Coe.unfull ?_ | refine CoeL.cons (Coe.agg ?_) ?_ | refine CoeL.cons (Coe.tup ?_) ?_))) rfl rfl rfl ?_)
    refine AO.op (O.assign rfl rfl) rfl rfl rfl ?_
    refine AO.nil ?_
    refine AQ.thenN ?_
    refine AW.seq ?_
    refine AW.seq ?_
    refine AW.region ?_
    refine AO.op (O.move rfl rfl) rfl rfl rfl ?_
    first | (refine AO.op (O.lenR rfl rfl) rfl rfl rfl ?_) | (refine AO.op (O.lenV rfl rfl) rfl rfl rfl ?_) | (refine AO.op (O.lenRow rfl rfl (by repeat (first | exact List.Mem.head _ | refine List.Mem.tail _ ?_))) rfl rfl rfl ?_) | (refine AO.op (O.lenS rfl rfl) rfl rfl rfl ?_)
    refine AO.op (O.gtr rfl rfl rfl (by first | exact bTrue (by omega) | exact bFalse (by omega) | assumption | rfl)) rfl rfl rfl ?_
    refine AO.nil ?_
    refine AQ.thenN ?_
    refine AW.split rfl (fun h2 => ?_) (fun h2 => ?_) <;> (try simp only [decide_eq_true_eq, decide_eq_false_iff_not, beq_iff_eq, beq_eq_false_iff_ne, bne_iff_ne, bne_eq_false_iff_eq, Bool.not_eq_true', Bool.not_eq_false', Bool.not_eq_true, Bool.not_eq_false, ne_eq, Int.not_lt, Int.not_le, Bool.and_eq_true, Bool.or_eq_true, Bool.or_eq_false_iff, Bool.and_eq_false_imp, strOf_toList, Decidable.not_not] at h2)
    · skip
      have e : encR m = ([], 1) := encR_f fun hv => by have := hv.2; omega
      refine AW.seq ?_
      refine AW.region ?_
      refine AO.op (O.assign rfl rfl) rfl rfl rfl ?_
      refine AO.op (O.assign rfl rfl) rfl rfl rfl ?_
      refine AO.nil ?_
      refine AQ.thenN ?_
      refine AW.ret ?_
      refine AQ.thenR ?_
      refine FnQ.coe (AQ.ret2 rfl rfl rfl ⟨_, List.nil_sublist _, .nil⟩ ⟨rfl, rfl⟩) (Coe.tup (by repeat (first | exact CoeL.nil | refine CoeL.cons Coe.rfl ?_ | refine CoeL.cons Coe.nil ?_ | refine CoeL.cons Coe.unfull ?_ | refine CoeL.cons (Coe.agg ?_) ?_ | refine CoeL.cons (Coe.tup ?_) ?_))) (⟨congrArg (fun z : List UInt8 × Int => AV.tup [roB z.1, .val (.int .i64 z.2)]) e.symm, rfl⟩)
    · skip
      have e : encR m = (raw m, 0) := encR_t ⟨hm, by omega⟩
      refine AW.skip ?_
      refine AQ.thenN ?_
      refine AW.seq ?_
      refine AW.region ?_
      refine AO.op (O.move rfl rfl) rfl rfl rfl ?_
      refine AO.op (O.assign rfl rfl) rfl rfl rfl ?_
      refine AO.op (O.assign rfl rfl) rfl rfl rfl ?_
      refine AO.nil ?_
      refine AQ.thenN ?_
      refine AW.ret ?_
      refine AQ.ret2 rfl rfl rfl ⟨_, List.nil_sublist _, .nil⟩ (⟨congrArg (fun z : List UInt8 × Int => AV.tup [roB z.1, .val (.int .i64 z.2)]) e.symm, rfl⟩)
theorem size_fn (m : Msg) : Sp Try.prog 23 [aggM m] [] (Is (.val (.int .i64 ((encR m).1.length : Int)))) := by
  refine Sp.enter Try.func23 rfl _ Try.ntmps23 rfl (fun w0 R0 => ?_)
  refine AW.seq ?_
  refine AW.region ?_
  refine AO.opB (O.box rfl rfl rfl rfl rfl) rfl rfl rfl ?_
  intro B1
  refine AO.op (O.assign rfl rfl) rfl rfl rfl ?_
  refine AO.nil ?_
  refine AQ.thenN ?_
  refine AW.seq ?_
  refine AW.region ?_
  first | (refine AO.op (O.loadRK rfl rfl (by first | exact getO (by omega) (by omega) | (dsimp only [List.take, List.drop]; rfl)) (by rfl)) rfl rfl rfl ?_) | (refine AO.op (O.loadK rfl rfl (by repeat (first | exact List.Mem.head _ | refine List.Mem.tail _ ?_)) (by first | exact getO (by omega) (by omega) | (dsimp only [List.take, List.drop]; rfl)) (by rfl)) rfl rfl rfl ?_) | (refine AO.op (O.loadK rfl rfl (by repeat (first | exact List.Mem.head _ | refine List.Mem.tail _ ?_)) (by first | (dsimp only [List.set, List.append, List.cons_append, List.nil_append, roB_cells, roI_cells, roO_cells, splice, ofConst, AV.cells, List.map, List.map_cons, List.map_nil, List.take, List.drop, Nat.zero_add, Nat.add_zero, Nat.reduceAdd, Nat.reduceMul, Nat.zero_mul, Value.cells, List.toList_toArray, zerosA, List.replicate, List.flatten, List.append_nil]; rfl) | (dsimp only [List.set, List.append, List.cons_append, List.nil_append, roB_cells, roI_cells, roO_cells, splice, ofConst, AV.cells, List.map, List.map_cons, List.map_nil, List.take, List.drop, Nat.zero_add, Nat.add_zero, Nat.reduceAdd, Nat.reduceMul, Nat.zero_mul, Value.cells, List.toList_toArray, zerosA, List.replicate, List.flatten, List.append_nil]; done) | rfl) (by rfl)) rfl rfl rfl ?_)
  first | (refine AO.op (O.call rfl Try.func20 rfl rfl rfl (enc_fn m)) rfl rfl rfl ?_) | (refine AO.op (O.callC rfl Try.func20 rfl rfl rfl (enc_fn m) (by repeat (first | exact CoeL.nil | refine CoeL.cons Coe.rfl ?_ | refine CoeL.cons Coe.nil ?_ | refine CoeL.cons Coe.unfull ?_ | refine CoeL.cons (Coe.agg ?_) ?_ | refine CoeL.cons (Coe.tup ?_) ?_))) rfl rfl rfl ?_) | (refine AO.op (O.callL rfl Try.func20 rfl rfl rfl (by repeat (first | exact List.Mem.head _ | refine List.Mem.tail _ ?_)) (enc_fn m) (by repeat (first | exact LendL.nil | refine LendL.same ?_ | refine LendL.lend ?_))) rfl rfl rfl ?_)
  refine AO.op (O.move rfl rfl) rfl rfl rfl ?_
  first | (refine AO.op (O.extract rfl rfl rfl) rfl rfl rfl ?_) | (refine AO.op (O.extractV rfl rfl rfl) rfl rfl rfl ?_)
  first | (refine AO.op (O.extract rfl rfl rfl) rfl rfl rfl ?_) | (refine AO.op (O.extractV rfl rfl rfl) rfl rfl rfl ?_)
  refine AO.op (O.assign rfl rfl) rfl rfl rfl ?_
  refine AO.op (O.assign rfl rfl) rfl rfl rfl ?_
  refine AO.nil ?_
  refine AQ.thenN ?_
  refine AW.seq ?_
  refine AW.region ?_
  refine AO.op (O.move rfl rfl) rfl rfl rfl ?_
  first | (refine AO.op (O.lenR rfl rfl) rfl rfl rfl ?_) | (refine AO.op (O.lenV rfl rfl) rfl rfl rfl ?_) | (refine AO.op (O.lenRow rfl rfl (by repeat (first | exact List.Mem.head _ | refine List.Mem.tail _ ?_))) rfl rfl rfl ?_) | (refine AO.op (O.lenS rfl rfl) rfl rfl rfl ?_)
  refine AO.op (O.assign rfl rfl) rfl rfl rfl ?_
  refine AO.nil ?_
  refine AQ.thenN ?_
  refine AW.ret ?_
  refine AQ.ret1 rfl rfl ⟨_, List.nil_sublist _, .nil⟩ (⟨rfl, rfl⟩)
theorem cls_div {c : Int} (h : 0 ≤ c) : c.tdiv 32 = c / 32 := Int.tdiv_eq_ediv_of_nonneg h
end Go.Proofs.Ytiddmpmpjdnmeaa.By
