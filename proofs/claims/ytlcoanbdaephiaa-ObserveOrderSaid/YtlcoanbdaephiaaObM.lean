/-
  Layer 19: Same; what the laws look at; a full registry.
-/
import Derived.Test.YtlcoanbdaephiaaObG
import Derived.Test.YtlcoanbdaephiaaDk
namespace Go.Proofs.Ytlcoanbdaephiaa.Ob
open Go.RowKit L A
set_option linter.unusedVariables false
set_option linter.unusedSimpArgs false
attribute [local irreducible] AW AQ AO

set_option maxHeartbeats 2000000 in
theorem same_fn (ws : List Watch) (hlen : ws.length ≤ 1000000) : Sp Try.prog 20 [roW ws, roW ws] [] (Is (.val (.bool true))) := by
  refine Sp.enter Try.func20 rfl _ Try.ntmps20 rfl (fun w0 R0 => ?_)
  refine AW.seq ?_
  refine AW.region ?_
  refine AO.op (O.assign rfl rfl) rfl rfl rfl ?_
  refine AO.nil ?_
  refine AQ.thenN ?_
  refine AW.seq ?_
  refine AW.seq ?_
  refine AW.region ?_
  refine AO.op (O.move rfl rfl) rfl rfl rfl ?_
  first | (refine AO.op (O.lenR rfl rfl) rfl rfl rfl ?_) | (refine AO.op (O.lenV rfl rfl) rfl rfl rfl ?_) | (refine AO.op (O.lenRow rfl rfl (by repeat (first | exact List.Mem.head _ | refine List.Mem.tail _ ?_))) rfl rfl rfl ?_) | (refine AO.op (O.lenS rfl rfl) rfl rfl rfl ?_)
  refine AO.op (O.move rfl rfl) rfl rfl rfl ?_
  first | (refine AO.op (O.lenR rfl rfl) rfl rfl rfl ?_) | (refine AO.op (O.lenV rfl rfl) rfl rfl rfl ?_) | (refine AO.op (O.lenRow rfl rfl (by repeat (first | exact List.Mem.head _ | refine List.Mem.tail _ ?_))) rfl rfl rfl ?_) | (refine AO.op (O.lenS rfl rfl) rfl rfl rfl ?_)
  refine AO.op (O.neq rfl rfl rfl (by first | exact bne_iff_ne.2 (by omega) | exact bne_eq_false_iff_eq.2 (by omega) | assumption | rfl)) rfl rfl rfl ?_
  refine AO.nil ?_
  refine AQ.thenN ?_
  refine AW.condF rfl ?_
  refine AW.skip ?_
  refine AQ.thenN ?_
  refine AW.seq ?_
  refine AW.seq ?_
  refine AW.region ?_
  refine AO.op (O.move rfl rfl) rfl rfl rfl ?_
  first | (refine AO.op (O.lenR rfl rfl) rfl rfl rfl ?_) | (refine AO.op (O.lenV rfl rfl) rfl rfl rfl ?_) | (refine AO.op (O.lenRow rfl rfl (by repeat (first | exact List.Mem.head _ | refine List.Mem.tail _ ?_))) rfl rfl rfl ?_) | (refine AO.op (O.lenS rfl rfl) rfl rfl rfl ?_)
  refine AO.op (O.move rfl rfl) rfl rfl rfl ?_
  refine AO.nil ?_
  refine AQ.thenN ?_
  refine AW.block ?_
  refine AW.loop (fun n E H => ∃ k : Nat, k ≤ ws.length ∧ n = ws.length - k ∧ E = [(1, roW ws), (13, roW ws), (14, .val (.int .i64 (ws.length : Int))), (15, .val (.int .i64 (k : Int)))] ∧ H = []) (ws.length) (⟨0, by omega, rfl, rfl, rfl⟩) (by repeat (first | exact envNil | refine envCons rfl ?_)) ⟨_, by repeat (first | exact List.Sublist.slnil | refine List.Sublist.cons_cons _ ?_ | refine List.Sublist.cons _ ?_), List.Perm.refl _⟩ ?_
  rintro n E H ⟨k, hk, rfl, rfl, rfl⟩
  refine AW.seq ?_
  refine AW.region ?_
  refine AO.op (O.lss rfl rfl rfl (by first | exact bTrue (by omega) | exact bFalse (by omega) | assumption | rfl)) rfl rfl rfl ?_
  refine AO.nil ?_
  refine AQ.thenN ?_
  refine AW.seq ?_
  refine AW.split rfl (fun hlt => ?_) (fun hlt => ?_)
  · skip
    have hlt : k < ws.length := by have := of_decide_eq_true hlt; omega
    refine AW.skip ?_
    refine AQ.thenN ?_
    refine AW.seq ?_
    refine AW.block ?_
    refine AW.seq ?_
    refine AW.region ?_
    refine AO.op (O.move rfl rfl) rfl rfl rfl ?_
    first | (refine AO.op (O.idxR rfl rfl rfl ⟨by omega, by omega⟩) rfl rfl rfl ?_) | (refine AO.op (O.idxV rfl rfl rfl ⟨by omega, by omega⟩) rfl rfl rfl ?_)
    first | (refine AO.op (O.loadRK rfl rfl (by first | exact getW (by assumption) | (dsimp only [List.take, List.drop]; rfl)) (by rfl)) rfl rfl rfl ?_) | (refine AO.op (O.loadK rfl rfl (by repeat (first | exact List.Mem.head _ | refine List.Mem.tail _ ?_)) (by first | exact getW (by assumption) | (dsimp only [List.take, List.drop]; rfl)) (by rfl)) rfl rfl rfl ?_) | (refine AO.op (O.loadK rfl rfl (by repeat (first | exact List.Mem.head _ | refine List.Mem.tail _ ?_)) (by first | (dsimp only [List.set, List.append, List.cons_append, List.nil_append, splice, AV.cells, List.map, List.map_cons, List.map_nil, List.take, List.drop, Nat.zero_add, Nat.add_zero, Nat.reduceAdd, Nat.reduceMul, Nat.zero_mul, Value.cells, List.toList_toArray, zerosA, List.replicate, List.flatten, List.append_nil]; rfl) | (dsimp only [List.set, List.append, List.cons_append, List.nil_append, splice, AV.cells, List.map, List.map_cons, List.map_nil, List.take, List.drop, Nat.zero_add, Nat.add_zero, Nat.reduceAdd, Nat.reduceMul, Nat.zero_mul, Value.cells, List.toList_toArray, zerosA, List.replicate, List.flatten, List.append_nil]; done) | rfl) (by rfl)) rfl rfl rfl ?_)
    refine AO.opB (O.alloc rfl (by first | (dsimp only [List.set, List.append, List.cons_append, List.nil_append, splice, AV.cells, List.map, List.map_cons, List.map_nil, List.take, List.drop, Nat.zero_add, Nat.add_zero, Nat.reduceAdd, Nat.reduceMul, Nat.zero_mul, Value.cells, List.toList_toArray, zerosA, List.replicate, List.flatten, List.append_nil]; rfl) | (dsimp only [List.set, List.append, List.cons_append, List.nil_append, splice, AV.cells, List.map, List.map_cons, List.map_nil, List.take, List.drop, Nat.zero_add, Nat.add_zero, Nat.reduceAdd, Nat.reduceMul, Nat.zero_mul, Value.cells, List.toList_toArray, zerosA, List.replicate, List.flatten, List.append_nil]; done) | rfl) (by rfl)) rfl rfl rfl ?_
    intro B
    refine AO.op (O.assign rfl rfl) rfl rfl rfl ?_
    first | (refine AO.store (i := 0) rfl rfl rfl rfl rfl rfl (by first | rfl | (simp [AV.cells, AV.one, *]; done) | simp [AV.cells, AV.one, Value.oneCell', *]) (by rfl) (by rfl) (by first | (dsimp only [List.set, List.append, List.cons_append, List.nil_append, splice, AV.cells, List.map, List.map_cons, List.map_nil, List.take, List.drop, Nat.zero_add, Nat.add_zero, Nat.reduceAdd, Nat.reduceMul, Nat.zero_mul, Value.cells, List.toList_toArray, zerosA, List.replicate, List.flatten, List.append_nil]; rfl) | (dsimp only [List.set, List.append, List.cons_append, List.nil_append, splice, AV.cells, List.map, List.map_cons, List.map_nil, List.take, List.drop, Nat.zero_add, Nat.add_zero, Nat.reduceAdd, Nat.reduceMul, Nat.zero_mul, Value.cells, List.toList_toArray, zerosA, List.replicate, List.flatten, List.append_nil]; done) | rfl) (by first | (dsimp only [List.set, List.append, List.cons_append, List.nil_append, splice, AV.cells, List.map, List.map_cons, List.map_nil, List.take, List.drop, Nat.zero_add, Nat.add_zero, Nat.reduceAdd, Nat.reduceMul, Nat.zero_mul, Value.cells, List.toList_toArray, zerosA, List.replicate, List.flatten, List.append_nil]; rfl) | (dsimp only [List.set, List.append, List.cons_append, List.nil_append, splice, AV.cells, List.map, List.map_cons, List.map_nil, List.take, List.drop, Nat.zero_add, Nat.add_zero, Nat.reduceAdd, Nat.reduceMul, Nat.zero_mul, Value.cells, List.toList_toArray, zerosA, List.replicate, List.flatten, List.append_nil]; done) | rfl) ?_) | (refine AO.store (i := 1) rfl rfl rfl rfl rfl rfl (by first | rfl | (simp [AV.cells, AV.one, *]; done) | simp [AV.cells, AV.one, Value.oneCell', *]) (by rfl) (by rfl) (by first | (dsimp only [List.set, List.append, List.cons_append, List.nil_append, splice, AV.cells, List.map, List.map_cons, List.map_nil, List.take, List.drop, Nat.zero_add, Nat.add_zero, Nat.reduceAdd, Nat.reduceMul, Nat.zero_mul, Value.cells, List.toList_toArray, zerosA, List.replicate, List.flatten, List.append_nil]; rfl) | (dsimp only [List.set, List.append, List.cons_append, List.nil_append, splice, AV.cells, List.map, List.map_cons, List.map_nil, List.take, List.drop, Nat.zero_add, Nat.add_zero, Nat.reduceAdd, Nat.reduceMul, Nat.zero_mul, Value.cells, List.toList_toArray, zerosA, List.replicate, List.flatten, List.append_nil]; done) | rfl) (by first | (dsimp only [List.set, List.append, List.cons_append, List.nil_append, splice, AV.cells, List.map, List.map_cons, List.map_nil, List.take, List.drop, Nat.zero_add, Nat.add_zero, Nat.reduceAdd, Nat.reduceMul, Nat.zero_mul, Value.cells, List.toList_toArray, zerosA, List.replicate, List.flatten, List.append_nil]; rfl) | (dsimp only [List.set, List.append, List.cons_append, List.nil_append, splice, AV.cells, List.map, List.map_cons, List.map_nil, List.take, List.drop, Nat.zero_add, Nat.add_zero, Nat.reduceAdd, Nat.reduceMul, Nat.zero_mul, Value.cells, List.toList_toArray, zerosA, List.replicate, List.flatten, List.append_nil]; done) | rfl) ?_) | (refine AO.store (i := 2) rfl rfl rfl rfl rfl rfl (by first | rfl | (simp [AV.cells, AV.one, *]; done) | simp [AV.cells, AV.one, Value.oneCell', *]) (by rfl) (by rfl) (by first | (dsimp only [List.set, List.append, List.cons_append, List.nil_append, splice, AV.cells, List.map, List.map_cons, List.map_nil, List.take, List.drop, Nat.zero_add, Nat.add_zero, Nat.reduceAdd, Nat.reduceMul, Nat.zero_mul, Value.cells, List.toList_toArray, zerosA, List.replicate, List.flatten, List.append_nil]; rfl) | (dsimp only [List.set, List.append, List.cons_append, List.nil_append, splice, AV.cells, List.map, List.map_cons, List.map_nil, List.take, List.drop, Nat.zero_add, Nat.add_zero, Nat.reduceAdd, Nat.reduceMul, Nat.zero_mul, Value.cells, List.toList_toArray, zerosA, List.replicate, List.flatten, List.append_nil]; done) | rfl) (by first | (dsimp only [List.set, List.append, List.cons_append, List.nil_append, splice, AV.cells, List.map, List.map_cons, List.map_nil, List.take, List.drop, Nat.zero_add, Nat.add_zero, Nat.reduceAdd, Nat.reduceMul, Nat.zero_mul, Value.cells, List.toList_toArray, zerosA, List.replicate, List.flatten, List.append_nil]; rfl) | (dsimp only [List.set, List.append, List.cons_append, List.nil_append, splice, AV.cells, List.map, List.map_cons, List.map_nil, List.take, List.drop, Nat.zero_add, Nat.add_zero, Nat.reduceAdd, Nat.reduceMul, Nat.zero_mul, Value.cells, List.toList_toArray, zerosA, List.replicate, List.flatten, List.append_nil]; done) | rfl) ?_) | (refine AO.store (i := 3) rfl rfl rfl rfl rfl rfl (by first | rfl | (simp [AV.cells, AV.one, *]; done) | simp [AV.cells, AV.one, Value.oneCell', *]) (by rfl) (by rfl) (by first | (dsimp only [List.set, List.append, List.cons_append, List.nil_append, splice, AV.cells, List.map, List.map_cons, List.map_nil, List.take, List.drop, Nat.zero_add, Nat.add_zero, Nat.reduceAdd, Nat.reduceMul, Nat.zero_mul, Value.cells, List.toList_toArray, zerosA, List.replicate, List.flatten, List.append_nil]; rfl) | (dsimp only [List.set, List.append, List.cons_append, List.nil_append, splice, AV.cells, List.map, List.map_cons, List.map_nil, List.take, List.drop, Nat.zero_add, Nat.add_zero, Nat.reduceAdd, Nat.reduceMul, Nat.zero_mul, Value.cells, List.toList_toArray, zerosA, List.replicate, List.flatten, List.append_nil]; done) | rfl) (by first | (dsimp only [List.set, List.append, List.cons_append, List.nil_append, splice, AV.cells, List.map, List.map_cons, List.map_nil, List.take, List.drop, Nat.zero_add, Nat.add_zero, Nat.reduceAdd, Nat.reduceMul, Nat.zero_mul, Value.cells, List.toList_toArray, zerosA, List.replicate, List.flatten, List.append_nil]; rfl) | (dsimp only [List.set, List.append, List.cons_append, List.nil_append, splice, AV.cells, List.map, List.map_cons, List.map_nil, List.take, List.drop, Nat.zero_add, Nat.add_zero, Nat.reduceAdd, Nat.reduceMul, Nat.zero_mul, Value.cells, List.toList_toArray, zerosA, List.replicate, List.flatten, List.append_nil]; done) | rfl) ?_) | (refine AO.store (i := 4) rfl rfl rfl rfl rfl rfl (by first | rfl | (simp [AV.cells, AV.one, *]; done) | simp [AV.cells, AV.one, Value.oneCell', *]) (by rfl) (by rfl) (by first | (dsimp only [List.set, List.append, List.cons_append, List.nil_append, splice, AV.cells, List.map, List.map_cons, List.map_nil, List.take, List.drop, Nat.zero_add, Nat.add_zero, Nat.reduceAdd, Nat.reduceMul, Nat.zero_mul, Value.cells, List.toList_toArray, zerosA, List.replicate, List.flatten, List.append_nil]; rfl) | (dsimp only [List.set, List.append, List.cons_append, List.nil_append, splice, AV.cells, List.map, List.map_cons, List.map_nil, List.take, List.drop, Nat.zero_add, Nat.add_zero, Nat.reduceAdd, Nat.reduceMul, Nat.zero_mul, Value.cells, List.toList_toArray, zerosA, List.replicate, List.flatten, List.append_nil]; done) | rfl) (by first | (dsimp only [List.set, List.append, List.cons_append, List.nil_append, splice, AV.cells, List.map, List.map_cons, List.map_nil, List.take, List.drop, Nat.zero_add, Nat.add_zero, Nat.reduceAdd, Nat.reduceMul, Nat.zero_mul, Value.cells, List.toList_toArray, zerosA, List.replicate, List.flatten, List.append_nil]; rfl) | (dsimp only [List.set, List.append, List.cons_append, List.nil_append, splice, AV.cells, List.map, List.map_cons, List.map_nil, List.take, List.drop, Nat.zero_add, Nat.add_zero, Nat.reduceAdd, Nat.reduceMul, Nat.zero_mul, Value.cells, List.toList_toArray, zerosA, List.replicate, List.flatten, List.append_nil]; done) | rfl) ?_) | (refine AO.store (i := 5) rfl rfl rfl rfl rfl rfl (by first | rfl | (simp [AV.cells, AV.one, *]; done) | simp [AV.cells, AV.one, Value.oneCell', *]) (by rfl) (by rfl) (by first | (dsimp only [List.set, List.append, List.cons_append, List.nil_append, splice, AV.cells, List.map, List.map_cons, List.map_nil, List.take, List.drop, Nat.zero_add, Nat.add_zero, Nat.reduceAdd, Nat.reduceMul, Nat.zero_mul, Value.cells, List.toList_toArray, zerosA, List.replicate, List.flatten, List.append_nil]; rfl) | (dsimp only [List.set, List.append, List.cons_append, List.nil_append, splice, AV.cells, List.map, List.map_cons, List.map_nil, List.take, List.drop, Nat.zero_add, Nat.add_zero, Nat.reduceAdd, Nat.reduceMul, Nat.zero_mul, Value.cells, List.toList_toArray, zerosA, List.replicate, List.flatten, List.append_nil]; done) | rfl) (by first | (dsimp only [List.set, List.append, List.cons_append, List.nil_append, splice, AV.cells, List.map, List.map_cons, List.map_nil, List.take, List.drop, Nat.zero_add, Nat.add_zero, Nat.reduceAdd, Nat.reduceMul, Nat.zero_mul, Value.cells, List.toList_toArray, zerosA, List.replicate, List.flatten, List.append_nil]; rfl) | (dsimp only [List.set, List.append, List.cons_append, List.nil_append, splice, AV.cells, List.map, List.map_cons, List.map_nil, List.take, List.drop, Nat.zero_add, Nat.add_zero, Nat.reduceAdd, Nat.reduceMul, Nat.zero_mul, Value.cells, List.toList_toArray, zerosA, List.replicate, List.flatten, List.append_nil]; done) | rfl) ?_)
    refine AO.nil ?_
    refine AQ.thenN ?_
    refine AW.seq ?_
    refine AW.region ?_
    refine AO.op (O.move rfl rfl) rfl rfl rfl ?_
    refine AO.op (O.move rfl rfl) rfl rfl rfl ?_
    first | (refine AO.op (O.idxR rfl rfl rfl ⟨by omega, by omega⟩) rfl rfl rfl ?_) | (refine AO.op (O.idxV rfl rfl rfl ⟨by omega, by omega⟩) rfl rfl rfl ?_)
    first | (refine AO.op (O.loadRK rfl rfl (by first | exact getW (by assumption) | (dsimp only [List.take, List.drop]; rfl)) (by rfl)) rfl rfl rfl ?_) | (refine AO.op (O.loadK rfl rfl (by repeat (first | exact List.Mem.head _ | refine List.Mem.tail _ ?_)) (by first | exact getW (by assumption) | (dsimp only [List.take, List.drop]; rfl)) (by rfl)) rfl rfl rfl ?_) | (refine AO.op (O.loadK rfl rfl (by repeat (first | exact List.Mem.head _ | refine List.Mem.tail _ ?_)) (by first | (dsimp only [List.set, List.append, List.cons_append, List.nil_append, splice, AV.cells, List.map, List.map_cons, List.map_nil, List.take, List.drop, Nat.zero_add, Nat.add_zero, Nat.reduceAdd, Nat.reduceMul, Nat.zero_mul, Value.cells, List.toList_toArray, zerosA, List.replicate, List.flatten, List.append_nil]; rfl) | (dsimp only [List.set, List.append, List.cons_append, List.nil_append, splice, AV.cells, List.map, List.map_cons, List.map_nil, List.take, List.drop, Nat.zero_add, Nat.add_zero, Nat.reduceAdd, Nat.reduceMul, Nat.zero_mul, Value.cells, List.toList_toArray, zerosA, List.replicate, List.flatten, List.append_nil]; done) | rfl) (by rfl)) rfl rfl rfl ?_)
    refine AO.opB (O.alloc rfl (by first | (dsimp only [List.set, List.append, List.cons_append, List.nil_append, splice, AV.cells, List.map, List.map_cons, List.map_nil, List.take, List.drop, Nat.zero_add, Nat.add_zero, Nat.reduceAdd, Nat.reduceMul, Nat.zero_mul, Value.cells, List.toList_toArray, zerosA, List.replicate, List.flatten, List.append_nil]; rfl) | (dsimp only [List.set, List.append, List.cons_append, List.nil_append, splice, AV.cells, List.map, List.map_cons, List.map_nil, List.take, List.drop, Nat.zero_add, Nat.add_zero, Nat.reduceAdd, Nat.reduceMul, Nat.zero_mul, Value.cells, List.toList_toArray, zerosA, List.replicate, List.flatten, List.append_nil]; done) | rfl) (by rfl)) rfl rfl rfl ?_
    intro B
    first | (refine AO.store (i := 0) rfl rfl rfl rfl rfl rfl (by first | rfl | (simp [AV.cells, AV.one, *]; done) | simp [AV.cells, AV.one, Value.oneCell', *]) (by rfl) (by rfl) (by first | (dsimp only [List.set, List.append, List.cons_append, List.nil_append, splice, AV.cells, List.map, List.map_cons, List.map_nil, List.take, List.drop, Nat.zero_add, Nat.add_zero, Nat.reduceAdd, Nat.reduceMul, Nat.zero_mul, Value.cells, List.toList_toArray, zerosA, List.replicate, List.flatten, List.append_nil]; rfl) | (dsimp only [List.set, List.append, List.cons_append, List.nil_append, splice, AV.cells, List.map, List.map_cons, List.map_nil, List.take, List.drop, Nat.zero_add, Nat.add_zero, Nat.reduceAdd, Nat.reduceMul, Nat.zero_mul, Value.cells, List.toList_toArray, zerosA, List.replicate, List.flatten, List.append_nil]; done) | rfl) (by first | (dsimp only [List.set, List.append, List.cons_append, List.nil_append, splice, AV.cells, List.map, List.map_cons, List.map_nil, List.take, List.drop, Nat.zero_add, Nat.add_zero, Nat.reduceAdd, Nat.reduceMul, Nat.zero_mul, Value.cells, List.toList_toArray, zerosA, List.replicate, List.flatten, List.append_nil]; rfl) | (dsimp only [List.set, List.append, List.cons_append, List.nil_append, splice, AV.cells, List.map, List.map_cons, List.map_nil, List.take, List.drop, Nat.zero_add, Nat.add_zero, Nat.reduceAdd, Nat.reduceMul, Nat.zero_mul, Value.cells, List.toList_toArray, zerosA, List.replicate, List.flatten, List.append_nil]; done) | rfl) ?_) | (refine AO.store (i := 1) rfl rfl rfl rfl rfl rfl (by first | rfl | (simp [AV.cells, AV.one, *]; done) | simp [AV.cells, AV.one, Value.oneCell', *]) (by rfl) (by rfl) (by first | (dsimp only [List.set, List.append, List.cons_append, List.nil_append, splice, AV.cells, List.map, List.map_cons, List.map_nil, List.take, List.drop, Nat.zero_add, Nat.add_zero, Nat.reduceAdd, Nat.reduceMul, Nat.zero_mul, Value.cells, List.toList_toArray, zerosA, List.replicate, List.flatten, List.append_nil]; rfl) | (dsimp only [List.set, List.append, List.cons_append, List.nil_append, splice, AV.cells, List.map, List.map_cons, List.map_nil, List.take, List.drop, Nat.zero_add, Nat.add_zero, Nat.reduceAdd, Nat.reduceMul, Nat.zero_mul, Value.cells, List.toList_toArray, zerosA, List.replicate, List.flatten, List.append_nil]; done) | rfl) (by first | (dsimp only [List.set, List.append, List.cons_append, List.nil_append, splice, AV.cells, List.map, List.map_cons, List.map_nil, List.take, List.drop, Nat.zero_add, Nat.add_zero, Nat.reduceAdd, Nat.reduceMul, Nat.zero_mul, Value.cells, List.toList_toArray, zerosA, List.replicate, List.flatten, List.append_nil]; rfl) | (dsimp only [List.set, List.append, List.cons_append, List.nil_append, splice, AV.cells, List.map, List.map_cons, List.map_nil, List.take, List.drop, Nat.zero_add, Nat.add_zero, Nat.reduceAdd, Nat.reduceMul, Nat.zero_mul, Value.cells, List.toList_toArray, zerosA, List.replicate, List.flatten, List.append_nil]; done) | rfl) ?_) | (refine AO.store (i := 2) rfl rfl rfl rfl rfl rfl (by first | rfl | (simp [AV.cells, AV.one, *]; done) | simp [AV.cells, AV.one, Value.oneCell', *]) (by rfl) (by rfl) (by first | (dsimp only [List.set, List.append, List.cons_append, List.nil_append, splice, AV.cells, List.map, List.map_cons, List.map_nil, List.take, List.drop, Nat.zero_add, Nat.add_zero, Nat.reduceAdd, Nat.reduceMul, Nat.zero_mul, Value.cells, List.toList_toArray, zerosA, List.replicate, List.flatten, List.append_nil]; rfl) | (dsimp only [List.set, List.append, List.cons_append, List.nil_append, splice, AV.cells, List.map, List.map_cons, List.map_nil, List.take, List.drop, Nat.zero_add, Nat.add_zero, Nat.reduceAdd, Nat.reduceMul, Nat.zero_mul, Value.cells, List.toList_toArray, zerosA, List.replicate, List.flatten, List.append_nil]; done) | rfl) (by first | (dsimp only [List.set, List.append, List.cons_append, List.nil_append, splice, AV.cells, List.map, List.map_cons, List.map_nil, List.take, List.drop, Nat.zero_add, Nat.add_zero, Nat.reduceAdd, Nat.reduceMul, Nat.zero_mul, Value.cells, List.toList_toArray, zerosA, List.replicate, List.flatten, List.append_nil]; rfl) | (dsimp only [List.set, List.append, List.cons_append, List.nil_append, splice, AV.cells, List.map, List.map_cons, List.map_nil, List.take, List.drop, Nat.zero_add, Nat.add_zero, Nat.reduceAdd, Nat.reduceMul, Nat.zero_mul, Value.cells, List.toList_toArray, zerosA, List.replicate, List.flatten, List.append_nil]; done) | rfl) ?_) | (refine AO.store (i := 3) rfl rfl rfl rfl rfl rfl (by first | rfl | (simp [AV.cells, AV.one, *]; done) | simp [AV.cells, AV.one, Value.oneCell', *]) (by rfl) (by rfl) (by first | (dsimp only [List.set, List.append, List.cons_append, List.nil_append, splice, AV.cells, List.map, List.map_cons, List.map_nil, List.take, List.drop, Nat.zero_add, Nat.add_zero, Nat.reduceAdd, Nat.reduceMul, Nat.zero_mul, Value.cells, List.toList_toArray, zerosA, List.replicate, List.flatten, List.append_nil]; rfl) | (dsimp only [List.set, List.append, List.cons_append, List.nil_append, splice, AV.cells, List.map, List.map_cons, List.map_nil, List.take, List.drop, Nat.zero_add, Nat.add_zero, Nat.reduceAdd, Nat.reduceMul, Nat.zero_mul, Value.cells, List.toList_toArray, zerosA, List.replicate, List.flatten, List.append_nil]; done) | rfl) (by first | (dsimp only [List.set, List.append, List.cons_append, List.nil_append, splice, AV.cells, List.map, List.map_cons, List.map_nil, List.take, List.drop, Nat.zero_add, Nat.add_zero, Nat.reduceAdd, Nat.reduceMul, Nat.zero_mul, Value.cells, List.toList_toArray, zerosA, List.replicate, List.flatten, List.append_nil]; rfl) | (dsimp only [List.set, List.append, List.cons_append, List.nil_append, splice, AV.cells, List.map, List.map_cons, List.map_nil, List.take, List.drop, Nat.zero_add, Nat.add_zero, Nat.reduceAdd, Nat.reduceMul, Nat.zero_mul, Value.cells, List.toList_toArray, zerosA, List.replicate, List.flatten, List.append_nil]; done) | rfl) ?_) | (refine AO.store (i := 4) rfl rfl rfl rfl rfl rfl (by first | rfl | (simp [AV.cells, AV.one, *]; done) | simp [AV.cells, AV.one, Value.oneCell', *]) (by rfl) (by rfl) (by first | (dsimp only [List.set, List.append, List.cons_append, List.nil_append, splice, AV.cells, List.map, List.map_cons, List.map_nil, List.take, List.drop, Nat.zero_add, Nat.add_zero, Nat.reduceAdd, Nat.reduceMul, Nat.zero_mul, Value.cells, List.toList_toArray, zerosA, List.replicate, List.flatten, List.append_nil]; rfl) | (dsimp only [List.set, List.append, List.cons_append, List.nil_append, splice, AV.cells, List.map, List.map_cons, List.map_nil, List.take, List.drop, Nat.zero_add, Nat.add_zero, Nat.reduceAdd, Nat.reduceMul, Nat.zero_mul, Value.cells, List.toList_toArray, zerosA, List.replicate, List.flatten, List.append_nil]; done) | rfl) (by first | (dsimp only [List.set, List.append, List.cons_append, List.nil_append, splice, AV.cells, List.map, List.map_cons, List.map_nil, List.take, List.drop, Nat.zero_add, Nat.add_zero, Nat.reduceAdd, Nat.reduceMul, Nat.zero_mul, Value.cells, List.toList_toArray, zerosA, List.replicate, List.flatten, List.append_nil]; rfl) | (dsimp only [List.set, List.append, List.cons_append, List.nil_append, splice, AV.cells, List.map, List.map_cons, List.map_nil, List.take, List.drop, Nat.zero_add, Nat.add_zero, Nat.reduceAdd, Nat.reduceMul, Nat.zero_mul, Value.cells, List.toList_toArray, zerosA, List.replicate, List.flatten, List.append_nil]; done) | rfl) ?_) | (refine AO.store (i := 5) rfl rfl rfl rfl rfl rfl (by first | rfl | (simp [AV.cells, AV.one, *]; done) | simp [AV.cells, AV.one, Value.oneCell', *]) (by rfl) (by rfl) (by first | (dsimp only [List.set, List.append, List.cons_append, List.nil_append, splice, AV.cells, List.map, List.map_cons, List.map_nil, List.take, List.drop, Nat.zero_add, Nat.add_zero, Nat.reduceAdd, Nat.reduceMul, Nat.zero_mul, Value.cells, List.toList_toArray, zerosA, List.replicate, List.flatten, List.append_nil]; rfl) | (dsimp only [List.set, List.append, List.cons_append, List.nil_append, splice, AV.cells, List.map, List.map_cons, List.map_nil, List.take, List.drop, Nat.zero_add, Nat.add_zero, Nat.reduceAdd, Nat.reduceMul, Nat.zero_mul, Value.cells, List.toList_toArray, zerosA, List.replicate, List.flatten, List.append_nil]; done) | rfl) (by first | (dsimp only [List.set, List.append, List.cons_append, List.nil_append, splice, AV.cells, List.map, List.map_cons, List.map_nil, List.take, List.drop, Nat.zero_add, Nat.add_zero, Nat.reduceAdd, Nat.reduceMul, Nat.zero_mul, Value.cells, List.toList_toArray, zerosA, List.replicate, List.flatten, List.append_nil]; rfl) | (dsimp only [List.set, List.append, List.cons_append, List.nil_append, splice, AV.cells, List.map, List.map_cons, List.map_nil, List.take, List.drop, Nat.zero_add, Nat.add_zero, Nat.reduceAdd, Nat.reduceMul, Nat.zero_mul, Value.cells, List.toList_toArray, zerosA, List.replicate, List.flatten, List.append_nil]; done) | rfl) ?_)
    refine AO.nil ?_
    refine AQ.thenN ?_
    refine AW.seq ?_
    refine AW.region ?_
    first | (refine AO.op (O.fieldAddrR rfl rfl) rfl rfl rfl ?_) | (refine AO.op (O.fieldAddr rfl rfl) rfl rfl rfl ?_)
    first | (refine AO.op (O.loadR rfl rfl (by first | rfl | assumption)) rfl rfl rfl ?_) | (refine AO.op (O.load rfl rfl (by repeat (first | exact List.Mem.head _ | refine List.Mem.tail _ ?_)) (by first | rfl | assumption)) rfl rfl rfl ?_)
    first | (refine AO.op (O.fieldAddrR rfl rfl) rfl rfl rfl ?_) | (refine AO.op (O.fieldAddr rfl rfl) rfl rfl rfl ?_)
    first | (refine AO.op (O.loadR rfl rfl (by first | rfl | assumption)) rfl rfl rfl ?_) | (refine AO.op (O.load rfl rfl (by repeat (first | exact List.Mem.head _ | refine List.Mem.tail _ ?_)) (by first | rfl | assumption)) rfl rfl rfl ?_)
    refine AO.op (O.neq rfl rfl rfl (by first | exact bne_iff_ne.2 (by omega) | exact bne_eq_false_iff_eq.2 (by omega) | assumption | rfl)) rfl rfl rfl ?_
    refine AO.op (O.move rfl rfl) rfl rfl rfl ?_
    first | (refine AO.opG rfl rfl rfl (fun hp => O.fieldAddrR rfl rfl) ?_) | (refine AO.opG rfl rfl rfl (fun hp => O.fieldAddr rfl rfl) ?_) | (refine AO.op (O.fieldAddrR rfl rfl) rfl rfl rfl ?_) | (refine AO.op (O.fieldAddr rfl rfl) rfl rfl rfl ?_) | (refine AO.no rfl rfl rfl ?_)
    first | (refine AO.opG rfl rfl rfl (fun hp => OpW.force 30 rfl (by first | exact hp | simp_all) (O.loadR rfl rfl (by first | rfl | assumption))) ?_) | (refine AO.opG rfl rfl rfl (fun hp => OpW.force 30 rfl (by first | exact hp | simp_all) (O.load rfl rfl (by repeat (first | exact List.Mem.head _ | refine List.Mem.tail _ ?_)) (by first | rfl | assumption))) ?_) | (refine AO.op (O.loadR rfl rfl (by first | rfl | assumption)) rfl rfl rfl ?_) | (refine AO.op (O.load rfl rfl (by repeat (first | exact List.Mem.head _ | refine List.Mem.tail _ ?_)) (by first | rfl | assumption)) rfl rfl rfl ?_) | (refine AO.no rfl rfl rfl ?_)
    first | (refine AO.opG rfl rfl rfl (fun hp => O.fieldAddrR rfl rfl) ?_) | (refine AO.opG rfl rfl rfl (fun hp => O.fieldAddr rfl rfl) ?_) | (refine AO.op (O.fieldAddrR rfl rfl) rfl rfl rfl ?_) | (refine AO.op (O.fieldAddr rfl rfl) rfl rfl rfl ?_) | (refine AO.no rfl rfl rfl ?_)
    first | (refine AO.opG rfl rfl rfl (fun hp => OpW.force 32 rfl (by first | exact hp | simp_all) (O.loadR rfl rfl (by first | rfl | assumption))) ?_) | (refine AO.opG rfl rfl rfl (fun hp => OpW.force 32 rfl (by first | exact hp | simp_all) (O.load rfl rfl (by repeat (first | exact List.Mem.head _ | refine List.Mem.tail _ ?_)) (by first | rfl | assumption))) ?_) | (refine AO.op (O.loadR rfl rfl (by first | rfl | assumption)) rfl rfl rfl ?_) | (refine AO.op (O.load rfl rfl (by repeat (first | exact List.Mem.head _ | refine List.Mem.tail _ ?_)) (by first | rfl | assumption)) rfl rfl rfl ?_) | (refine AO.no rfl rfl rfl ?_)
    first | (refine AO.opG rfl rfl rfl (fun hp => OpW.force 31 rfl (by first | exact hp | simp_all) (OpW.force 33 rfl (by first | exact hp | simp_all) (O.neq rfl rfl rfl (by first | exact bne_iff_ne.2 (by omega) | exact bne_eq_false_iff_eq.2 (by omega) | assumption | rfl)))) ?_) | (refine AO.op (O.neq rfl rfl rfl (by first | exact bne_iff_ne.2 (by omega) | exact bne_eq_false_iff_eq.2 (by omega) | assumption | rfl)) rfl rfl rfl ?_) | (refine AO.no rfl rfl rfl ?_)
    first | (refine AO.op (O.pickOr rfl rfl rfl rfl (fun h => by first | exact congrArg (fun b => !b) h | simp_all)) rfl rfl rfl ?_) | (refine AO.op (O.pickT rfl rfl rfl) rfl rfl rfl ?_) | (refine AO.op (O.pickF rfl rfl rfl) rfl rfl rfl ?_)
    refine AO.op (O.move rfl rfl) rfl rfl rfl ?_
    first | (refine AO.opG rfl rfl rfl (fun hp => O.fieldAddrR rfl rfl) ?_) | (refine AO.opG rfl rfl rfl (fun hp => O.fieldAddr rfl rfl) ?_) | (refine AO.op (O.fieldAddrR rfl rfl) rfl rfl rfl ?_) | (refine AO.op (O.fieldAddr rfl rfl) rfl rfl rfl ?_) | (refine AO.no rfl rfl rfl ?_)
    first | (refine AO.opG rfl rfl rfl (fun hp => OpW.force 37 rfl (by first | exact hp | simp_all) (O.loadR rfl rfl (by first | rfl | assumption))) ?_) | (refine AO.opG rfl rfl rfl (fun hp => OpW.force 37 rfl (by first | exact hp | simp_all) (O.load rfl rfl (by repeat (first | exact List.Mem.head _ | refine List.Mem.tail _ ?_)) (by first | rfl | assumption))) ?_) | (refine AO.op (O.loadR rfl rfl (by first | rfl | assumption)) rfl rfl rfl ?_) | (refine AO.op (O.load rfl rfl (by repeat (first | exact List.Mem.head _ | refine List.Mem.tail _ ?_)) (by first | rfl | assumption)) rfl rfl rfl ?_) | (refine AO.no rfl rfl rfl ?_)
    first | (refine AO.opG rfl rfl rfl (fun hp => O.fieldAddrR rfl rfl) ?_) | (refine AO.opG rfl rfl rfl (fun hp => O.fieldAddr rfl rfl) ?_) | (refine AO.op (O.fieldAddrR rfl rfl) rfl rfl rfl ?_) | (refine AO.op (O.fieldAddr rfl rfl) rfl rfl rfl ?_) | (refine AO.no rfl rfl rfl ?_)
    first | (refine AO.opG rfl rfl rfl (fun hp => OpW.force 39 rfl (by first | exact hp | simp_all) (O.loadR rfl rfl (by first | rfl | assumption))) ?_) | (refine AO.opG rfl rfl rfl (fun hp => OpW.force 39 rfl (by first | exact hp | simp_all) (O.load rfl rfl (by repeat (first | exact List.Mem.head _ | refine List.Mem.tail _ ?_)) (by first | rfl | assumption))) ?_) | (refine AO.op (O.loadR rfl rfl (by first | rfl | assumption)) rfl rfl rfl ?_) | (refine AO.op (O.load rfl rfl (by repeat (first | exact List.Mem.head _ | refine List.Mem.tail _ ?_)) (by first | rfl | assumption)) rfl rfl rfl ?_) | (refine AO.no rfl rfl rfl ?_)
    first | (refine AO.opG rfl rfl rfl (fun hp => OpW.force 38 rfl (by first | exact hp | simp_all) (OpW.force 40 rfl (by first | exact hp | simp_all) (O.neq rfl rfl rfl (by first | exact bne_iff_ne.2 (by omega) | exact bne_eq_false_iff_eq.2 (by omega) | assumption | rfl)))) ?_) | (refine AO.op (O.neq rfl rfl rfl (by first | exact bne_iff_ne.2 (by omega) | exact bne_eq_false_iff_eq.2 (by omega) | assumption | rfl)) rfl rfl rfl ?_) | (refine AO.no rfl rfl rfl ?_)
    first | (refine AO.op (O.pickOr rfl rfl rfl rfl (fun h => by first | exact congrArg (fun b => !b) h | simp_all)) rfl rfl rfl ?_) | (refine AO.op (O.pickT rfl rfl rfl) rfl rfl rfl ?_) | (refine AO.op (O.pickF rfl rfl rfl) rfl rfl rfl ?_)
    refine AO.op (O.move rfl rfl) rfl rfl rfl ?_
    first | (refine AO.opG rfl rfl rfl (fun hp => O.fieldAddrR rfl rfl) ?_) | (refine AO.opG rfl rfl rfl (fun hp => O.fieldAddr rfl rfl) ?_) | (refine AO.op (O.fieldAddrR rfl rfl) rfl rfl rfl ?_) | (refine AO.op (O.fieldAddr rfl rfl) rfl rfl rfl ?_) | (refine AO.no rfl rfl rfl ?_)
    first | (refine AO.opG rfl rfl rfl (fun hp => OpW.force 44 rfl (by first | exact hp | simp_all) (O.loadR rfl rfl (by first | rfl | assumption))) ?_) | (refine AO.opG rfl rfl rfl (fun hp => OpW.force 44 rfl (by first | exact hp | simp_all) (O.load rfl rfl (by repeat (first | exact List.Mem.head _ | refine List.Mem.tail _ ?_)) (by first | rfl | assumption))) ?_) | (refine AO.op (O.loadR rfl rfl (by first | rfl | assumption)) rfl rfl rfl ?_) | (refine AO.op (O.load rfl rfl (by repeat (first | exact List.Mem.head _ | refine List.Mem.tail _ ?_)) (by first | rfl | assumption)) rfl rfl rfl ?_) | (refine AO.no rfl rfl rfl ?_)
    first | (refine AO.opG rfl rfl rfl (fun hp => OpW.force 45 rfl (by first | exact hp | simp_all) (O.convS rfl rfl (by first | rfl | assumption))) ?_) | (refine AO.opG rfl rfl rfl (fun hp => OpW.force 45 rfl (by first | exact hp | simp_all) (O.convSV rfl rfl (by repeat (first | exact List.Mem.head _ | refine List.Mem.tail _ ?_)) (by first | rfl | assumption))) ?_) | (refine AO.op (O.convS rfl rfl (by first | rfl | assumption)) rfl rfl rfl ?_) | (refine AO.op (O.convSV rfl rfl (by repeat (first | exact List.Mem.head _ | refine List.Mem.tail _ ?_)) (by first | rfl | assumption)) rfl rfl rfl ?_) | (refine AO.no rfl rfl rfl ?_)
    first | (refine AO.opG rfl rfl rfl (fun hp => O.fieldAddrR rfl rfl) ?_) | (refine AO.opG rfl rfl rfl (fun hp => O.fieldAddr rfl rfl) ?_) | (refine AO.op (O.fieldAddrR rfl rfl) rfl rfl rfl ?_) | (refine AO.op (O.fieldAddr rfl rfl) rfl rfl rfl ?_) | (refine AO.no rfl rfl rfl ?_)
    first | (refine AO.opG rfl rfl rfl (fun hp => OpW.force 47 rfl (by first | exact hp | simp_all) (O.loadR rfl rfl (by first | rfl | assumption))) ?_) | (refine AO.opG rfl rfl rfl (fun hp => OpW.force 47 rfl (by first | exact hp | simp_all) (O.load rfl rfl (by repeat (first | exact List.Mem.head _ | refine List.Mem.tail _ ?_)) (by first | rfl | assumption))) ?_) | (refine AO.op (O.loadR rfl rfl (by first | rfl | assumption)) rfl rfl rfl ?_) | (refine AO.op (O.load rfl rfl (by repeat (first | exact List.Mem.head _ | refine List.Mem.tail _ ?_)) (by first | rfl | assumption)) rfl rfl rfl ?_) | (refine AO.no rfl rfl rfl ?_)
    first | (refine AO.opG rfl rfl rfl (fun hp => OpW.force 48 rfl (by first | exact hp | simp_all) (O.convS rfl rfl (by first | rfl | assumption))) ?_) | (refine AO.opG rfl rfl rfl (fun hp => OpW.force 48 rfl (by first | exact hp | simp_all) (O.convSV rfl rfl (by repeat (first | exact List.Mem.head _ | refine List.Mem.tail _ ?_)) (by first | rfl | assumption))) ?_) | (refine AO.op (O.convS rfl rfl (by first | rfl | assumption)) rfl rfl rfl ?_) | (refine AO.op (O.convSV rfl rfl (by repeat (first | exact List.Mem.head _ | refine List.Mem.tail _ ?_)) (by first | rfl | assumption)) rfl rfl rfl ?_) | (refine AO.no rfl rfl rfl ?_)
    first | (refine AO.opG rfl rfl rfl (fun hp => OpW.force 46 rfl (by first | exact hp | simp_all) (OpW.force 49 rfl (by first | exact hp | simp_all) (O.neqS rfl rfl rfl (by first | assumption | rfl)))) ?_) | (refine AO.op (O.neqS rfl rfl rfl (by first | assumption | rfl)) rfl rfl rfl ?_) | (refine AO.no rfl rfl rfl ?_)
    first | (refine AO.op (O.pickOr rfl rfl rfl rfl (fun h => by first | exact congrArg (fun b => !b) h | simp_all)) rfl rfl rfl ?_) | (refine AO.op (O.pickT rfl rfl rfl) rfl rfl rfl ?_) | (refine AO.op (O.pickF rfl rfl rfl) rfl rfl rfl ?_)
    refine AO.op (O.move rfl rfl) rfl rfl rfl ?_
    first | (refine AO.opG rfl rfl rfl (fun hp => O.fieldAddrR rfl rfl) ?_) | (refine AO.opG rfl rfl rfl (fun hp => O.fieldAddr rfl rfl) ?_) | (refine AO.op (O.fieldAddrR rfl rfl) rfl rfl rfl ?_) | (refine AO.op (O.fieldAddr rfl rfl) rfl rfl rfl ?_) | (refine AO.no rfl rfl rfl ?_)
    first | (refine AO.opG rfl rfl rfl (fun hp => OpW.force 53 rfl (by first | exact hp | simp_all) (O.loadR rfl rfl (by first | rfl | assumption))) ?_) | (refine AO.opG rfl rfl rfl (fun hp => OpW.force 53 rfl (by first | exact hp | simp_all) (O.load rfl rfl (by repeat (first | exact List.Mem.head _ | refine List.Mem.tail _ ?_)) (by first | rfl | assumption))) ?_) | (refine AO.op (O.loadR rfl rfl (by first | rfl | assumption)) rfl rfl rfl ?_) | (refine AO.op (O.load rfl rfl (by repeat (first | exact List.Mem.head _ | refine List.Mem.tail _ ?_)) (by first | rfl | assumption)) rfl rfl rfl ?_) | (refine AO.no rfl rfl rfl ?_)
    first | (refine AO.opG rfl rfl rfl (fun hp => OpW.force 54 rfl (by first | exact hp | simp_all) (O.convS rfl rfl (by first | rfl | assumption))) ?_) | (refine AO.opG rfl rfl rfl (fun hp => OpW.force 54 rfl (by first | exact hp | simp_all) (O.convSV rfl rfl (by repeat (first | exact List.Mem.head _ | refine List.Mem.tail _ ?_)) (by first | rfl | assumption))) ?_) | (refine AO.op (O.convS rfl rfl (by first | rfl | assumption)) rfl rfl rfl ?_) | (refine AO.op (O.convSV rfl rfl (by repeat (first | exact List.Mem.head _ | refine List.Mem.tail _ ?_)) (by first | rfl | assumption)) rfl rfl rfl ?_) | (refine AO.no rfl rfl rfl ?_)
    first | (refine AO.opG rfl rfl rfl (fun hp => O.fieldAddrR rfl rfl) ?_) | (refine AO.opG rfl rfl rfl (fun hp => O.fieldAddr rfl rfl) ?_) | (refine AO.op (O.fieldAddrR rfl rfl) rfl rfl rfl ?_) | (refine AO.op (O.fieldAddr rfl rfl) rfl rfl rfl ?_) | (refine AO.no rfl rfl rfl ?_)
    first | (refine AO.opG rfl rfl rfl (fun hp => OpW.force 56 rfl (by first | exact hp | simp_all) (O.loadR rfl rfl (by first | rfl | assumption))) ?_) | (refine AO.opG rfl rfl rfl (fun hp => OpW.force 56 rfl (by first | exact hp | simp_all) (O.load rfl rfl (by repeat (first | exact List.Mem.head _ | refine List.Mem.tail _ ?_)) (by first | rfl | assumption))) ?_) | (refine AO.op (O.loadR rfl rfl (by first | rfl | assumption)) rfl rfl rfl ?_) | (refine AO.op (O.load rfl rfl (by repeat (first | exact List.Mem.head _ | refine List.Mem.tail _ ?_)) (by first | rfl | assumption)) rfl rfl rfl ?_) | (refine AO.no rfl rfl rfl ?_)
    first | (refine AO.opG rfl rfl rfl (fun hp => OpW.force 57 rfl (by first | exact hp | simp_all) (O.convS rfl rfl (by first | rfl | assumption))) ?_) | (refine AO.opG rfl rfl rfl (fun hp => OpW.force 57 rfl (by first | exact hp | simp_all) (O.convSV rfl rfl (by repeat (first | exact List.Mem.head _ | refine List.Mem.tail _ ?_)) (by first | rfl | assumption))) ?_) | (refine AO.op (O.convS rfl rfl (by first | rfl | assumption)) rfl rfl rfl ?_) | (refine AO.op (O.convSV rfl rfl (by repeat (first | exact List.Mem.head _ | refine List.Mem.tail _ ?_)) (by first | rfl | assumption)) rfl rfl rfl ?_) | (refine AO.no rfl rfl rfl ?_)
    first | (refine AO.opG rfl rfl rfl (fun hp => OpW.force 55 rfl (by first | exact hp | simp_all) (OpW.force 58 rfl (by first | exact hp | simp_all) (O.neqS rfl rfl rfl (by first | assumption | rfl)))) ?_) | (refine AO.op (O.neqS rfl rfl rfl (by first | assumption | rfl)) rfl rfl rfl ?_) | (refine AO.no rfl rfl rfl ?_)
    first | (refine AO.op (O.pickOr rfl rfl rfl rfl (fun h => by first | exact congrArg (fun b => !b) h | simp_all)) rfl rfl rfl ?_) | (refine AO.op (O.pickT rfl rfl rfl) rfl rfl rfl ?_) | (refine AO.op (O.pickF rfl rfl rfl) rfl rfl rfl ?_)
    refine AO.nil ?_
    refine AQ.thenN ?_
    refine AW.split rfl (fun hne => ?_) (fun hne => ?_)
    · skip
      simp at hne
    · skip
      refine AW.skip ?_
      refine AQ.blockN ?_
      refine AQ.thenN ?_
      refine AW.region ?_
      refine AO.op (O.add rfl rfl rfl (by first | exact wI64 (by omega) | rfl)) rfl rfl rfl ?_
      refine AO.op (O.move rfl rfl) rfl rfl rfl ?_
      refine AO.nil ?_
      refine AQ.loopN _ _ _ (by omega) (⟨k + 1, by omega, rfl, rfl, rfl⟩) (by repeat (first | exact envNil | refine envCons rfl ?_)) ⟨_, by repeat (first | exact List.Sublist.slnil | refine List.Sublist.cons_cons _ ?_ | refine List.Sublist.cons _ ?_), List.Perm.refl _⟩
  · skip
    refine AW.exit ?_
    refine AQ.thenX ?_
    refine AQ.loopX ?_
    refine AQ.blockX rfl ?_
    refine AQ.thenN ?_
    refine AW.seq ?_
    refine AW.region ?_
    refine AO.op (O.assign rfl rfl) rfl rfl rfl ?_
    refine AO.nil ?_
    refine AQ.thenN ?_
    refine AW.ret ?_
    refine AQ.ret1 rfl rfl ⟨_, List.nil_sublist _, .nil⟩ (⟨rfl, rfl⟩)

theorem few_fn (l : List Int) : Sp Try.prog 32 [roI l] [] (Is (.val (.bool (decide ((l.length : Int) ≤ 300))))) := by
  refine Sp.enter Try.func32 rfl _ Try.ntmps32 rfl (fun w0 R0 => ?_)
  refine AW.seq ?_
  refine AW.region ?_
  refine AO.op (O.assign rfl rfl) rfl rfl rfl ?_
  refine AO.nil ?_
  refine AQ.thenN ?_
  refine AW.seq ?_
  refine AW.region ?_
  refine AO.op (O.move rfl rfl) rfl rfl rfl ?_
  first | (refine AO.op (O.lenR rfl rfl) rfl rfl rfl ?_) | (refine AO.op (O.lenV rfl rfl) rfl rfl rfl ?_) | (refine AO.op (O.lenRow rfl rfl (by repeat (first | exact List.Mem.head _ | refine List.Mem.tail _ ?_))) rfl rfl rfl ?_) | (refine AO.op (O.lenS rfl rfl) rfl rfl rfl ?_)
  refine AO.op (O.leq rfl rfl rfl (by first | exact bTrue (by omega) | exact bFalse (by omega) | assumption | rfl)) rfl rfl rfl ?_
  refine AO.op (O.assign rfl rfl) rfl rfl rfl ?_
  refine AO.nil ?_
  refine AQ.thenN ?_
  refine AW.ret ?_
  refine AQ.ret1 rfl rfl ⟨_, List.nil_sublist _, .nil⟩ (⟨rfl, rfl⟩)
theorem short_fn (l : List UInt8) : Sp Try.prog 10 [roB l] [] (Is (.val (.bool (decide ((l.length : Int) ≤ 600))))) := by
  refine Sp.enter Try.func10 rfl _ Try.ntmps10 rfl (fun w0 R0 => ?_)
  refine AW.seq ?_
  refine AW.region ?_
  refine AO.op (O.assign rfl rfl) rfl rfl rfl ?_
  refine AO.nil ?_
  refine AQ.thenN ?_
  refine AW.seq ?_
  refine AW.region ?_
  refine AO.op (O.move rfl rfl) rfl rfl rfl ?_
  first | (refine AO.op (O.lenR rfl rfl) rfl rfl rfl ?_) | (refine AO.op (O.lenV rfl rfl) rfl rfl rfl ?_) | (refine AO.op (O.lenRow rfl rfl (by repeat (first | exact List.Mem.head _ | refine List.Mem.tail _ ?_))) rfl rfl rfl ?_) | (refine AO.op (O.lenS rfl rfl) rfl rfl rfl ?_)
  refine AO.op (O.leq rfl rfl rfl (by first | exact bTrue (by omega) | exact bFalse (by omega) | assumption | rfl)) rfl rfl rfl ?_
  refine AO.op (O.assign rfl rfl) rfl rfl rfl ?_
  refine AO.nil ?_
  refine AQ.thenN ?_
  refine AW.ret ?_
  refine AQ.ret1 rfl rfl ⟨_, List.nil_sublist _, .nil⟩ (⟨rfl, rfl⟩)

def lightW (w : Watch) : Bool := !(decide (50 < (w.tok.length : Int)) || !decide ((w.key.length : Int) ≤ 600))
def lightB (ws : List Watch) : Bool := ws.all lightW && decide (ws.length ≤ 30)
set_option maxHeartbeats 1000000 in
theorem light_fn (ws : List Watch) : Sp Try.prog 9 [roW ws] [] (Is (.val (.bool (lightB ws)))) := by
  refine Sp.enter Try.func9 rfl _ Try.ntmps9 rfl (fun w0 R0 => ?_)
  refine AW.g ?_
  refine G.lenRo (t := 0) rfl (fun hmax => ?_)
  refine AW.u ?_
  unfold maxLen at hmax
  refine AW.seq ?_
  refine AW.region ?_
  refine AO.op (O.assign rfl rfl) rfl rfl rfl ?_
  refine AO.nil ?_
  refine AQ.thenN ?_
  refine AW.seq ?_
  refine AW.seq ?_
  refine AW.region ?_
  refine AO.op (O.move rfl rfl) rfl rfl rfl ?_
  first | (refine AO.op (O.lenR rfl rfl) rfl rfl rfl ?_) | (refine AO.op (O.lenV rfl rfl) rfl rfl rfl ?_) | (refine AO.op (O.lenRow rfl rfl (by repeat (first | exact List.Mem.head _ | refine List.Mem.tail _ ?_))) rfl rfl rfl ?_) | (refine AO.op (O.lenS rfl rfl) rfl rfl rfl ?_)
  refine AO.op (O.move rfl rfl) rfl rfl rfl ?_
  refine AO.nil ?_
  refine AQ.thenN ?_
  refine AW.block ?_
  refine AW.loop (fun n E H => ∃ k : Nat, k ≤ ws.length ∧ n = ws.length - k ∧ (ws.take k).all lightW = true ∧ E = [(0, roW ws), (5, roW ws), (6, .val (.int .i64 (ws.length : Int))), (7, .val (.int .i64 (k : Int)))] ∧ H = []) (ws.length) (⟨0, by omega, rfl, rfl, rfl, rfl⟩) (by repeat (first | exact envNil | refine envCons rfl ?_)) ⟨_, by repeat (first | exact List.Sublist.slnil | refine List.Sublist.cons_cons _ ?_ | refine List.Sublist.cons _ ?_), List.Perm.refl _⟩ ?_
  rintro n E H ⟨k, hk, rfl, hall, rfl, rfl⟩
  refine AW.seq ?_
  refine AW.region ?_
  refine AO.op (O.lss rfl rfl rfl (by first | exact bTrue (by omega) | exact bFalse (by omega) | assumption | rfl)) rfl rfl rfl ?_
  refine AO.nil ?_
  refine AQ.thenN ?_
  refine AW.seq ?_
  refine AW.split rfl (fun hlt => ?_) (fun hlt => ?_)
  · skip
    have hlt : k < ws.length := by have := of_decide_eq_true hlt; omega
    have hwat : wat ws k = ws[k] := by simp [wat, hlt]
    refine AW.skip ?_
    refine AQ.thenN ?_
    refine AW.seq ?_
    refine AW.block ?_
    refine AW.seq ?_
    refine AW.region ?_
    first | (refine AO.op (O.idxR rfl rfl rfl ⟨by omega, by omega⟩) rfl rfl rfl ?_) | (refine AO.op (O.idxV rfl rfl rfl ⟨by omega, by omega⟩) rfl rfl rfl ?_)
    first | (refine AO.op (O.loadRK rfl rfl (by first | exact getW (by assumption) | (dsimp only [List.take, List.drop]; rfl)) (by rfl)) rfl rfl rfl ?_) | (refine AO.op (O.loadK rfl rfl (by repeat (first | exact List.Mem.head _ | refine List.Mem.tail _ ?_)) (by first | exact getW (by assumption) | (dsimp only [List.take, List.drop]; rfl)) (by rfl)) rfl rfl rfl ?_) | (refine AO.op (O.loadK rfl rfl (by repeat (first | exact List.Mem.head _ | refine List.Mem.tail _ ?_)) (by first | (dsimp only [List.set, List.append, List.cons_append, List.nil_append, splice, AV.cells, List.map, List.map_cons, List.map_nil, List.take, List.drop, Nat.zero_add, Nat.add_zero, Nat.reduceAdd, Nat.reduceMul, Nat.zero_mul, Value.cells, List.toList_toArray, zerosA, List.replicate, List.flatten, List.append_nil]; rfl) | (dsimp only [List.set, List.append, List.cons_append, List.nil_append, splice, AV.cells, List.map, List.map_cons, List.map_nil, List.take, List.drop, Nat.zero_add, Nat.add_zero, Nat.reduceAdd, Nat.reduceMul, Nat.zero_mul, Value.cells, List.toList_toArray, zerosA, List.replicate, List.flatten, List.append_nil]; done) | rfl) (by rfl)) rfl rfl rfl ?_)
    refine AO.opB (O.alloc rfl (by first | (dsimp only [List.set, List.append, List.cons_append, List.nil_append, splice, AV.cells, List.map, List.map_cons, List.map_nil, List.take, List.drop, Nat.zero_add, Nat.add_zero, Nat.reduceAdd, Nat.reduceMul, Nat.zero_mul, Value.cells, List.toList_toArray, zerosA, List.replicate, List.flatten, List.append_nil]; rfl) | (dsimp only [List.set, List.append, List.cons_append, List.nil_append, splice, AV.cells, List.map, List.map_cons, List.map_nil, List.take, List.drop, Nat.zero_add, Nat.add_zero, Nat.reduceAdd, Nat.reduceMul, Nat.zero_mul, Value.cells, List.toList_toArray, zerosA, List.replicate, List.flatten, List.append_nil]; done) | rfl) (by rfl)) rfl rfl rfl ?_
    intro B
    first | (refine AO.store (i := 0) rfl rfl rfl rfl rfl rfl (by first | rfl | (simp [AV.cells, AV.one, *]; done) | simp [AV.cells, AV.one, Value.oneCell', *]) (by rfl) (by rfl) (by first | (dsimp only [List.set, List.append, List.cons_append, List.nil_append, splice, AV.cells, List.map, List.map_cons, List.map_nil, List.take, List.drop, Nat.zero_add, Nat.add_zero, Nat.reduceAdd, Nat.reduceMul, Nat.zero_mul, Value.cells, List.toList_toArray, zerosA, List.replicate, List.flatten, List.append_nil]; rfl) | (dsimp only [List.set, List.append, List.cons_append, List.nil_append, splice, AV.cells, List.map, List.map_cons, List.map_nil, List.take, List.drop, Nat.zero_add, Nat.add_zero, Nat.reduceAdd, Nat.reduceMul, Nat.zero_mul, Value.cells, List.toList_toArray, zerosA, List.replicate, List.flatten, List.append_nil]; done) | rfl) (by first | (dsimp only [List.set, List.append, List.cons_append, List.nil_append, splice, AV.cells, List.map, List.map_cons, List.map_nil, List.take, List.drop, Nat.zero_add, Nat.add_zero, Nat.reduceAdd, Nat.reduceMul, Nat.zero_mul, Value.cells, List.toList_toArray, zerosA, List.replicate, List.flatten, List.append_nil]; rfl) | (dsimp only [List.set, List.append, List.cons_append, List.nil_append, splice, AV.cells, List.map, List.map_cons, List.map_nil, List.take, List.drop, Nat.zero_add, Nat.add_zero, Nat.reduceAdd, Nat.reduceMul, Nat.zero_mul, Value.cells, List.toList_toArray, zerosA, List.replicate, List.flatten, List.append_nil]; done) | rfl) ?_) | (refine AO.store (i := 1) rfl rfl rfl rfl rfl rfl (by first | rfl | (simp [AV.cells, AV.one, *]; done) | simp [AV.cells, AV.one, Value.oneCell', *]) (by rfl) (by rfl) (by first | (dsimp only [List.set, List.append, List.cons_append, List.nil_append, splice, AV.cells, List.map, List.map_cons, List.map_nil, List.take, List.drop, Nat.zero_add, Nat.add_zero, Nat.reduceAdd, Nat.reduceMul, Nat.zero_mul, Value.cells, List.toList_toArray, zerosA, List.replicate, List.flatten, List.append_nil]; rfl) | (dsimp only [List.set, List.append, List.cons_append, List.nil_append, splice, AV.cells, List.map, List.map_cons, List.map_nil, List.take, List.drop, Nat.zero_add, Nat.add_zero, Nat.reduceAdd, Nat.reduceMul, Nat.zero_mul, Value.cells, List.toList_toArray, zerosA, List.replicate, List.flatten, List.append_nil]; done) | rfl) (by first | (dsimp only [List.set, List.append, List.cons_append, List.nil_append, splice, AV.cells, List.map, List.map_cons, List.map_nil, List.take, List.drop, Nat.zero_add, Nat.add_zero, Nat.reduceAdd, Nat.reduceMul, Nat.zero_mul, Value.cells, List.toList_toArray, zerosA, List.replicate, List.flatten, List.append_nil]; rfl) | (dsimp only [List.set, List.append, List.cons_append, List.nil_append, splice, AV.cells, List.map, List.map_cons, List.map_nil, List.take, List.drop, Nat.zero_add, Nat.add_zero, Nat.reduceAdd, Nat.reduceMul, Nat.zero_mul, Value.cells, List.toList_toArray, zerosA, List.replicate, List.flatten, List.append_nil]; done) | rfl) ?_) | (refine AO.store (i := 2) rfl rfl rfl rfl rfl rfl (by first | rfl | (simp [AV.cells, AV.one, *]; done) | simp [AV.cells, AV.one, Value.oneCell', *]) (by rfl) (by rfl) (by first | (dsimp only [List.set, List.append, List.cons_append, List.nil_append, splice, AV.cells, List.map, List.map_cons, List.map_nil, List.take, List.drop, Nat.zero_add, Nat.add_zero, Nat.reduceAdd, Nat.reduceMul, Nat.zero_mul, Value.cells, List.toList_toArray, zerosA, List.replicate, List.flatten, List.append_nil]; rfl) | (dsimp only [List.set, List.append, List.cons_append, List.nil_append, splice, AV.cells, List.map, List.map_cons, List.map_nil, List.take, List.drop, Nat.zero_add, Nat.add_zero, Nat.reduceAdd, Nat.reduceMul, Nat.zero_mul, Value.cells, List.toList_toArray, zerosA, List.replicate, List.flatten, List.append_nil]; done) | rfl) (by first | (dsimp only [List.set, List.append, List.cons_append, List.nil_append, splice, AV.cells, List.map, List.map_cons, List.map_nil, List.take, List.drop, Nat.zero_add, Nat.add_zero, Nat.reduceAdd, Nat.reduceMul, Nat.zero_mul, Value.cells, List.toList_toArray, zerosA, List.replicate, List.flatten, List.append_nil]; rfl) | (dsimp only [List.set, List.append, List.cons_append, List.nil_append, splice, AV.cells, List.map, List.map_cons, List.map_nil, List.take, List.drop, Nat.zero_add, Nat.add_zero, Nat.reduceAdd, Nat.reduceMul, Nat.zero_mul, Value.cells, List.toList_toArray, zerosA, List.replicate, List.flatten, List.append_nil]; done) | rfl) ?_) | (refine AO.store (i := 3) rfl rfl rfl rfl rfl rfl (by first | rfl | (simp [AV.cells, AV.one, *]; done) | simp [AV.cells, AV.one, Value.oneCell', *]) (by rfl) (by rfl) (by first | (dsimp only [List.set, List.append, List.cons_append, List.nil_append, splice, AV.cells, List.map, List.map_cons, List.map_nil, List.take, List.drop, Nat.zero_add, Nat.add_zero, Nat.reduceAdd, Nat.reduceMul, Nat.zero_mul, Value.cells, List.toList_toArray, zerosA, List.replicate, List.flatten, List.append_nil]; rfl) | (dsimp only [List.set, List.append, List.cons_append, List.nil_append, splice, AV.cells, List.map, List.map_cons, List.map_nil, List.take, List.drop, Nat.zero_add, Nat.add_zero, Nat.reduceAdd, Nat.reduceMul, Nat.zero_mul, Value.cells, List.toList_toArray, zerosA, List.replicate, List.flatten, List.append_nil]; done) | rfl) (by first | (dsimp only [List.set, List.append, List.cons_append, List.nil_append, splice, AV.cells, List.map, List.map_cons, List.map_nil, List.take, List.drop, Nat.zero_add, Nat.add_zero, Nat.reduceAdd, Nat.reduceMul, Nat.zero_mul, Value.cells, List.toList_toArray, zerosA, List.replicate, List.flatten, List.append_nil]; rfl) | (dsimp only [List.set, List.append, List.cons_append, List.nil_append, splice, AV.cells, List.map, List.map_cons, List.map_nil, List.take, List.drop, Nat.zero_add, Nat.add_zero, Nat.reduceAdd, Nat.reduceMul, Nat.zero_mul, Value.cells, List.toList_toArray, zerosA, List.replicate, List.flatten, List.append_nil]; done) | rfl) ?_) | (refine AO.store (i := 4) rfl rfl rfl rfl rfl rfl (by first | rfl | (simp [AV.cells, AV.one, *]; done) | simp [AV.cells, AV.one, Value.oneCell', *]) (by rfl) (by rfl) (by first | (dsimp only [List.set, List.append, List.cons_append, List.nil_append, splice, AV.cells, List.map, List.map_cons, List.map_nil, List.take, List.drop, Nat.zero_add, Nat.add_zero, Nat.reduceAdd, Nat.reduceMul, Nat.zero_mul, Value.cells, List.toList_toArray, zerosA, List.replicate, List.flatten, List.append_nil]; rfl) | (dsimp only [List.set, List.append, List.cons_append, List.nil_append, splice, AV.cells, List.map, List.map_cons, List.map_nil, List.take, List.drop, Nat.zero_add, Nat.add_zero, Nat.reduceAdd, Nat.reduceMul, Nat.zero_mul, Value.cells, List.toList_toArray, zerosA, List.replicate, List.flatten, List.append_nil]; done) | rfl) (by first | (dsimp only [List.set, List.append, List.cons_append, List.nil_append, splice, AV.cells, List.map, List.map_cons, List.map_nil, List.take, List.drop, Nat.zero_add, Nat.add_zero, Nat.reduceAdd, Nat.reduceMul, Nat.zero_mul, Value.cells, List.toList_toArray, zerosA, List.replicate, List.flatten, List.append_nil]; rfl) | (dsimp only [List.set, List.append, List.cons_append, List.nil_append, splice, AV.cells, List.map, List.map_cons, List.map_nil, List.take, List.drop, Nat.zero_add, Nat.add_zero, Nat.reduceAdd, Nat.reduceMul, Nat.zero_mul, Value.cells, List.toList_toArray, zerosA, List.replicate, List.flatten, List.append_nil]; done) | rfl) ?_) | (refine AO.store (i := 5) rfl rfl rfl rfl rfl rfl (by first | rfl | (simp [AV.cells, AV.one, *]; done) | simp [AV.cells, AV.one, Value.oneCell', *]) (by rfl) (by rfl) (by first | (dsimp only [List.set, List.append, List.cons_append, List.nil_append, splice, AV.cells, List.map, List.map_cons, List.map_nil, List.take, List.drop, Nat.zero_add, Nat.add_zero, Nat.reduceAdd, Nat.reduceMul, Nat.zero_mul, Value.cells, List.toList_toArray, zerosA, List.replicate, List.flatten, List.append_nil]; rfl) | (dsimp only [List.set, List.append, List.cons_append, List.nil_append, splice, AV.cells, List.map, List.map_cons, List.map_nil, List.take, List.drop, Nat.zero_add, Nat.add_zero, Nat.reduceAdd, Nat.reduceMul, Nat.zero_mul, Value.cells, List.toList_toArray, zerosA, List.replicate, List.flatten, List.append_nil]; done) | rfl) (by first | (dsimp only [List.set, List.append, List.cons_append, List.nil_append, splice, AV.cells, List.map, List.map_cons, List.map_nil, List.take, List.drop, Nat.zero_add, Nat.add_zero, Nat.reduceAdd, Nat.reduceMul, Nat.zero_mul, Value.cells, List.toList_toArray, zerosA, List.replicate, List.flatten, List.append_nil]; rfl) | (dsimp only [List.set, List.append, List.cons_append, List.nil_append, splice, AV.cells, List.map, List.map_cons, List.map_nil, List.take, List.drop, Nat.zero_add, Nat.add_zero, Nat.reduceAdd, Nat.reduceMul, Nat.zero_mul, Value.cells, List.toList_toArray, zerosA, List.replicate, List.flatten, List.append_nil]; done) | rfl) ?_)
    refine AO.nil ?_
    refine AQ.thenN ?_
    refine AW.seq ?_
    refine AW.region ?_
    first | (refine AO.op (O.fieldAddrR rfl rfl) rfl rfl rfl ?_) | (refine AO.op (O.fieldAddr rfl rfl) rfl rfl rfl ?_)
    first | (refine AO.op (O.loadR rfl rfl (by first | rfl | assumption)) rfl rfl rfl ?_) | (refine AO.op (O.load rfl rfl (by repeat (first | exact List.Mem.head _ | refine List.Mem.tail _ ?_)) (by first | rfl | assumption)) rfl rfl rfl ?_)
    first | (refine AO.op (O.lenR rfl rfl) rfl rfl rfl ?_) | (refine AO.op (O.lenV rfl rfl) rfl rfl rfl ?_) | (refine AO.op (O.lenRow rfl rfl (by repeat (first | exact List.Mem.head _ | refine List.Mem.tail _ ?_))) rfl rfl rfl ?_) | (refine AO.op (O.lenS rfl rfl) rfl rfl rfl ?_)
    refine AO.op (O.gtr rfl rfl rfl (by first | exact bTrue (by omega) | exact bFalse (by omega) | assumption | rfl)) rfl rfl rfl ?_
    refine AO.op (O.move rfl rfl) rfl rfl rfl ?_
    first | (refine AO.opG rfl rfl rfl (fun hp => O.fieldAddrR rfl rfl) ?_) | (refine AO.opG rfl rfl rfl (fun hp => O.fieldAddr rfl rfl) ?_) | (refine AO.op (O.fieldAddrR rfl rfl) rfl rfl rfl ?_) | (refine AO.op (O.fieldAddr rfl rfl) rfl rfl rfl ?_) | (refine AO.no rfl rfl rfl ?_)
    first | (refine AO.opG rfl rfl rfl (fun hp => OpW.force 16 rfl (by first | exact hp | simp_all) (O.loadR rfl rfl (by first | rfl | assumption))) ?_) | (refine AO.opG rfl rfl rfl (fun hp => OpW.force 16 rfl (by first | exact hp | simp_all) (O.load rfl rfl (by repeat (first | exact List.Mem.head _ | refine List.Mem.tail _ ?_)) (by first | rfl | assumption))) ?_) | (refine AO.op (O.loadR rfl rfl (by first | rfl | assumption)) rfl rfl rfl ?_) | (refine AO.op (O.load rfl rfl (by repeat (first | exact List.Mem.head _ | refine List.Mem.tail _ ?_)) (by first | rfl | assumption)) rfl rfl rfl ?_) | (refine AO.no rfl rfl rfl ?_)
    first | (refine AO.opG rfl rfl rfl (fun hp => OpW.force 17 rfl (by first | exact hp | simp_all) (O.call rfl Try.func10 rfl rfl rfl (short_fn _))) ?_) | (refine AO.opG rfl rfl rfl (fun hp => OpW.force 17 rfl (by first | exact hp | simp_all) (O.callC rfl Try.func10 rfl rfl rfl (short_fn _) (by repeat (first | exact CoeL.nil | refine CoeL.cons Coe.rfl ?_ | refine CoeL.cons Coe.nil ?_ | refine CoeL.cons Coe.unfull ?_)))) ?_) | (refine AO.opG rfl rfl rfl (fun hp => OpW.force 17 rfl (by first | exact hp | simp_all) (O.callL rfl Try.func10 rfl rfl rfl (by repeat (first | exact List.Mem.head _ | refine List.Mem.tail _ ?_)) (short_fn _) (by repeat (first | exact LendL.nil | refine LendL.same ?_ | refine LendL.lend ?_)))) ?_) | (refine AO.op (O.call rfl Try.func10 rfl rfl rfl (short_fn _)) rfl rfl rfl ?_) | (refine AO.op (O.callC rfl Try.func10 rfl rfl rfl (short_fn _) (by repeat (first | exact CoeL.nil | refine CoeL.cons Coe.rfl ?_ | refine CoeL.cons Coe.nil ?_ | refine CoeL.cons Coe.unfull ?_))) rfl rfl rfl ?_) | (refine AO.op (O.callL rfl Try.func10 rfl rfl rfl (by repeat (first | exact List.Mem.head _ | refine List.Mem.tail _ ?_)) (short_fn _) (by repeat (first | exact LendL.nil | refine LendL.same ?_ | refine LendL.lend ?_))) rfl rfl rfl ?_) | (refine AO.no rfl rfl rfl ?_)
    first | (refine AO.opG rfl rfl rfl (fun hp => OpW.force 18 rfl (by first | exact hp | simp_all) (O.not rfl rfl (by first | assumption | rfl))) ?_) | (refine AO.op (O.not rfl rfl (by first | assumption | rfl)) rfl rfl rfl ?_) | (refine AO.no rfl rfl rfl ?_)
    first | (refine AO.op (O.pickOr rfl rfl rfl rfl (fun h => by first | exact congrArg (fun b => !b) h | simp_all)) rfl rfl rfl ?_) | (refine AO.op (O.pickT rfl rfl rfl) rfl rfl rfl ?_) | (refine AO.op (O.pickF rfl rfl rfl) rfl rfl rfl ?_)
    refine AO.nil ?_
    refine AQ.thenN ?_
    refine AW.split rfl (fun hne => ?_) (fun hne => ?_)
    · skip
      refine AW.seq ?_
      refine AW.region ?_
      refine AO.op (O.assign rfl rfl) rfl rfl rfl ?_
      refine AO.nil ?_
      refine AQ.thenN ?_
      refine AW.ret ?_
      refine AQ.blockR ?_
      refine AQ.thenR ?_
      refine AQ.loopR ?_
      refine AQ.blockR ?_
      refine AQ.thenR ?_
      have e : lightB ws = false := by
        have h1 : lightW ws[k] = false := by rw [← hwat]; exact congrArg (fun b => !b) hne
        have h2 : ws.all lightW = false := by rw [List.all_eq_false]; exact ⟨ws[k], List.getElem_mem hlt, by simp [h1]⟩
        simp [lightB, h2]
      refine AQ.ret1 rfl rfl ⟨_, List.nil_sublist _, .nil⟩ (⟨congrArg (fun z => AV.val (.bool z)) e.symm, rfl⟩)
    · skip
      refine AW.skip ?_
      refine AQ.blockN ?_
      refine AQ.thenN ?_
      refine AW.region ?_
      refine AO.op (O.add rfl rfl rfl (by first | exact wI64 (by omega) | rfl)) rfl rfl rfl ?_
      refine AO.op (O.move rfl rfl) rfl rfl rfl ?_
      refine AO.nil ?_
      refine AQ.loopN _ _ _ (by omega) (⟨k + 1, by omega, rfl, by rw [List.take_succ_eq_append_getElem hlt, List.all_append, hall, ← hwat]; simpa [lightW] using hne, rfl, rfl⟩) (by repeat (first | exact envNil | refine envCons rfl ?_)) ⟨_, by repeat (first | exact List.Sublist.slnil | refine List.Sublist.cons_cons _ ?_ | refine List.Sublist.cons _ ?_), List.Perm.refl _⟩
  · skip
    have hlt : k = ws.length := by have := of_decide_eq_false hlt; omega
    subst hlt
    refine AW.exit ?_
    refine AQ.thenX ?_
    refine AQ.loopX ?_
    refine AQ.blockX rfl ?_
    refine AQ.thenN ?_
    refine AW.seq ?_
    refine AW.region ?_
    refine AO.op (O.move rfl rfl) rfl rfl rfl ?_
    first | (refine AO.op (O.lenR rfl rfl) rfl rfl rfl ?_) | (refine AO.op (O.lenV rfl rfl) rfl rfl rfl ?_) | (refine AO.op (O.lenRow rfl rfl (by repeat (first | exact List.Mem.head _ | refine List.Mem.tail _ ?_))) rfl rfl rfl ?_) | (refine AO.op (O.lenS rfl rfl) rfl rfl rfl ?_)
    refine AO.op (O.leq rfl rfl rfl (by first | exact bTrue (by omega) | exact bFalse (by omega) | assumption | rfl)) rfl rfl rfl ?_
    refine AO.op (O.assign rfl rfl) rfl rfl rfl ?_
    refine AO.nil ?_
    refine AQ.thenN ?_
    refine AW.ret ?_
    have e : lightB ws = decide ((ws.length : Int) ≤ 30) := by
      rw [List.take_length] at hall
      have : decide (ws.length ≤ 30) = decide ((ws.length : Int) ≤ 30) := by congr 1; simp; omega
      simp only [lightB, hall, this, Bool.true_and]
    refine AQ.ret1 rfl rfl ⟨_, List.nil_sublist _, .nil⟩ (⟨congrArg (fun z => AV.val (.bool z)) e.symm, rfl⟩)

def fullW (m : Nat) : List Watch := (List.range m).map fun i : Nat => ⟨(i : Int), [UInt8.ofNat i], [1], 0, 0⟩
theorem fullW_len (m : Nat) : (fullW m).length = m := by simp [fullW]
theorem fullW_succ (m : Nat) (h : m < 256) : watchesA (fullW (m + 1)) = watchesA (fullW m) ++ [.val (.int .i64 (m : Int)), .ro false 1 [.val (.int .u8 (m : Int))], .ro false 1 [.val (.int .u8 1)], .val (.int .i64 0), .val (.int .i64 0)] := by
  rw [fullW, List.range_succ, List.map_append, watchesA_app]
  have : ((UInt8.ofNat m).toNat : Int) = (m : Int) := by rw [UInt8.toNat_ofNat_of_lt' (by simp [UInt8.size]; omega)]
  rw [show watchesA (List.map (fun i : Nat => (⟨(i : Int), [UInt8.ofNat i], [1], 0, 0⟩ : Watch)) [m]) = [.val (.int .i64 (m : Int)), .ro false 1 [.val (.int .u8 ((UInt8.ofNat m).toNat : Int))], .ro false 1 [.val (.int .u8 1)], .val (.int .i64 0), .val (.int .i64 0)] from rfl, this]
  rfl
set_option maxHeartbeats 2000000 in
theorem full_fn (x : Int) : Sp Try.prog 14 [.val (.int .i64 x)] [] (Is (roW (fullW (15 + x % 3).toNat))) := by
  have q1 := Int.emod_nonneg x (show (3 : Int) ≠ 0 by omega)
  have q2 := Int.emod_lt_of_pos x (show (0 : Int) < 3 by omega)
  obtain ⟨m, hm⟩ : ∃ m : Nat, 15 + x % 3 = (m : Int) := ⟨(15 + x % 3).toNat, by omega⟩
  have hm2 : (15 + x % 3).toNat = m := by omega
  rw [hm2]
  refine Sp.enter Try.func14 rfl _ Try.ntmps14 rfl (fun w0 R0 => ?_)
  refine AW.seq ?_
  refine AW.region ?_
  refine AO.op (O.assign rfl rfl) rfl rfl rfl ?_
  refine AO.nil ?_
  refine AQ.thenN ?_
  refine AW.seq ?_
  refine AW.region ?_
  refine AO.op (O.assign rfl rfl) rfl rfl rfl ?_
  refine AO.nil ?_
  refine AQ.thenN ?_
  refine AW.seq ?_
  refine AW.seq ?_
  refine AW.region ?_
  refine AO.op (O.move rfl rfl) rfl rfl rfl ?_
  first | (refine AO.op (O.call rfl Try.func17 rfl rfl rfl (Dk.mod_fn _ _ (by omega) (by omega))) rfl rfl rfl ?_) | (refine AO.op (O.callC rfl Try.func17 rfl rfl rfl (Dk.mod_fn _ _ (by omega) (by omega)) (by repeat (first | exact CoeL.nil | refine CoeL.cons Coe.rfl ?_ | refine CoeL.cons Coe.nil ?_ | refine CoeL.cons Coe.unfull ?_))) rfl rfl rfl ?_) | (refine AO.op (O.callL rfl Try.func17 rfl rfl rfl (by repeat (first | exact List.Mem.head _ | refine List.Mem.tail _ ?_)) (Dk.mod_fn _ _ (by omega) (by omega)) (by repeat (first | exact LendL.nil | refine LendL.same ?_ | refine LendL.lend ?_))) rfl rfl rfl ?_)
  refine AO.op (O.add rfl rfl rfl (by first | exact wI64 (by omega) | rfl)) rfl rfl rfl ?_
  refine AO.op (O.move rfl rfl) rfl rfl rfl ?_
  refine AO.nil ?_
  refine AQ.thenN ?_
  refine AW.block ?_
  refine AW.g ?_
  refine G.nilRow 58 5 ?_
  refine AW.u ?_
  refine AW.loop (fun n E H => ∃ (k : Nat) (V : Value), k ≤ m ∧ V.oneCell' = true ∧ n = m - k ∧ E = [(3, .val V), (7, .val (.int .i64 (15 + x % 3))), (8, .val (.int .i64 (k : Int)))] ∧ H = [.row V 58 5 (fullW k).length (watchesA (fullW k))]) (m) (⟨0, .slice none 0 0, by omega, rfl, rfl, rfl, rfl⟩) (by repeat (first | exact envNil | refine envCons rfl ?_)) ⟨_, by repeat (first | exact List.Sublist.slnil | refine List.Sublist.cons_cons _ ?_ | refine List.Sublist.cons _ ?_), List.Perm.refl _⟩ ?_
  rintro n E H ⟨k, V0, hk1, hV0, rfl, rfl, rfl⟩
  refine AW.seq ?_
  refine AW.region ?_
  refine AO.op (O.lss rfl rfl rfl (by first | exact bTrue (by omega) | exact bFalse (by omega) | assumption | rfl)) rfl rfl rfl ?_
  refine AO.nil ?_
  refine AQ.thenN ?_
  refine AW.seq ?_
  refine AW.split rfl (fun hlt => ?_) (fun hlt => ?_)
  · skip
    have hlt : k < m := by have := of_decide_eq_true hlt; omega
    have hle := fullW_len k
    refine AW.skip ?_
    refine AQ.thenN ?_
    refine AW.seq ?_
    refine AW.block ?_
    refine AW.seq ?_
    refine AW.region ?_
    refine AO.op (O.move rfl rfl) rfl rfl rfl ?_
    refine AO.op (O.assign rfl rfl) rfl rfl rfl ?_
    refine AO.nil ?_
    refine AQ.thenN ?_
    refine AW.region ?_
    refine AO.op (O.move rfl rfl) rfl rfl rfl ?_
    refine AO.op (O.move rfl rfl) rfl rfl rfl ?_
    refine AO.op (O.move rfl rfl) rfl rfl rfl ?_
    refine AO.op (O.conv rfl rfl (by first | exact wU8 (by omega) | rfl)) rfl rfl rfl ?_
    refine AO.opB (O.buildSlice rfl rfl rfl (by rfl) (by rfl) (by rfl) (by rfl)) rfl rfl rfl ?_
    intro B
    refine AO.g ?_
    first | (refine G.freezeSl 0 15 rfl rfl ⟨Nat.le_refl _, by unfold maxLen; omega⟩ ?_) | (refine G.freezeSl 1 15 rfl rfl ⟨Nat.le_refl _, by unfold maxLen; omega⟩ ?_) | (refine G.freezeSl 2 15 rfl rfl ⟨Nat.le_refl _, by unfold maxLen; omega⟩ ?_) | (refine G.freezeSl 3 15 rfl rfl ⟨Nat.le_refl _, by unfold maxLen; omega⟩ ?_) | (refine G.freezeSl 4 15 rfl rfl ⟨Nat.le_refl _, by unfold maxLen; omega⟩ ?_) | (refine G.freezeSl 5 15 rfl rfl ⟨Nat.le_refl _, by unfold maxLen; omega⟩ ?_)
    refine G.unfull 15 rfl ?_
    refine AO.u ?_
    dsimp only [List.eraseIdx]
    refine AO.opB (O.buildSlice rfl rfl rfl (by rfl) (by rfl) (by rfl) (by rfl)) rfl rfl rfl ?_
    intro B
    refine AO.g ?_
    first | (refine G.freezeSl 0 16 rfl rfl ⟨Nat.le_refl _, by unfold maxLen; omega⟩ ?_) | (refine G.freezeSl 1 16 rfl rfl ⟨Nat.le_refl _, by unfold maxLen; omega⟩ ?_) | (refine G.freezeSl 2 16 rfl rfl ⟨Nat.le_refl _, by unfold maxLen; omega⟩ ?_) | (refine G.freezeSl 3 16 rfl rfl ⟨Nat.le_refl _, by unfold maxLen; omega⟩ ?_) | (refine G.freezeSl 4 16 rfl rfl ⟨Nat.le_refl _, by unfold maxLen; omega⟩ ?_) | (refine G.freezeSl 5 16 rfl rfl ⟨Nat.le_refl _, by unfold maxLen; omega⟩ ?_)
    refine G.unfull 16 rfl ?_
    refine AO.u ?_
    dsimp only [List.eraseIdx]
    refine AO.op (O.build rfl rfl rfl (by rfl)) rfl rfl rfl ?_
    refine AO.opB (O.buildSlice rfl rfl rfl (by rfl) (by rfl) (by rfl) (by rfl)) rfl rfl rfl ?_
    intro B
    refine AO.g ?_
    first | (refine G.freezeSl 0 18 rfl rfl ⟨Nat.le_refl _, by unfold maxLen; omega⟩ ?_) | (refine G.freezeSl 1 18 rfl rfl ⟨Nat.le_refl _, by unfold maxLen; omega⟩ ?_) | (refine G.freezeSl 2 18 rfl rfl ⟨Nat.le_refl _, by unfold maxLen; omega⟩ ?_) | (refine G.freezeSl 3 18 rfl rfl ⟨Nat.le_refl _, by unfold maxLen; omega⟩ ?_) | (refine G.freezeSl 4 18 rfl rfl ⟨Nat.le_refl _, by unfold maxLen; omega⟩ ?_) | (refine G.freezeSl 5 18 rfl rfl ⟨Nat.le_refl _, by unfold maxLen; omega⟩ ?_)
    refine G.unfull 18 rfl ?_
    refine AO.u ?_
    dsimp only [List.eraseIdx]
    first | (refine AO.append' (i := 0) rfl rfl rfl rfl (by rfl) (by rfl) rfl rfl rfl (by first | exact SrcA.nil TyD.ax | exact SrcA.ro TyD.ax (by first | rfl | simp) (Nat.le_of_ble_eq_true rfl) | exact SrcA.blk TyD.ax (by repeat (first | exact List.Mem.head _ | refine List.Mem.tail _ ?_)) (by first | (dsimp only [List.set, List.append, List.cons_append, List.nil_append, splice, AV.cells, List.map, List.map_cons, List.map_nil, List.take, List.drop, Nat.zero_add, Nat.add_zero, Nat.reduceAdd, Nat.reduceMul, Nat.zero_mul, Value.cells, List.toList_toArray, zerosA, List.replicate, List.flatten, List.append_nil]; rfl) | (dsimp only [List.set, List.append, List.cons_append, List.nil_append, splice, AV.cells, List.map, List.map_cons, List.map_nil, List.take, List.drop, Nat.zero_add, Nat.add_zero, Nat.reduceAdd, Nat.reduceMul, Nat.zero_mul, Value.cells, List.toList_toArray, zerosA, List.replicate, List.flatten, List.append_nil]; done) | rfl) (by first | rfl | simp) | exact SrcA.row TyD.ax (by repeat (first | exact List.Mem.head _ | refine List.Mem.tail _ ?_)) (by first | rfl | simp)) (by first | rfl | (simp [AV.cells, AV.one, *]; done) | simp [AV.cells, AV.one, Value.oneCell', *]) (by unfold maxLen; omega) (by omega) (by first | (dsimp only [List.set, List.append, List.cons_append, List.nil_append, splice, AV.cells, List.map, List.map_cons, List.map_nil, List.take, List.drop, Nat.zero_add, Nat.add_zero, Nat.reduceAdd, Nat.reduceMul, Nat.zero_mul, Value.cells, List.toList_toArray, zerosA, List.replicate, List.flatten, List.append_nil]; rfl) | (dsimp only [List.set, List.append, List.cons_append, List.nil_append, splice, AV.cells, List.map, List.map_cons, List.map_nil, List.take, List.drop, Nat.zero_add, Nat.add_zero, Nat.reduceAdd, Nat.reduceMul, Nat.zero_mul, Value.cells, List.toList_toArray, zerosA, List.replicate, List.flatten, List.append_nil]; done) | rfl) (fun _ => by first | (dsimp only [List.set]; rfl) | (dsimp only [List.set]; done) | rfl) ?_) | (refine AO.append' (i := 1) rfl rfl rfl rfl (by rfl) (by rfl) rfl rfl rfl (by first | exact SrcA.nil TyD.ax | exact SrcA.ro TyD.ax (by first | rfl | simp) (Nat.le_of_ble_eq_true rfl) | exact SrcA.blk TyD.ax (by repeat (first | exact List.Mem.head _ | refine List.Mem.tail _ ?_)) (by first | (dsimp only [List.set, List.append, List.cons_append, List.nil_append, splice, AV.cells, List.map, List.map_cons, List.map_nil, List.take, List.drop, Nat.zero_add, Nat.add_zero, Nat.reduceAdd, Nat.reduceMul, Nat.zero_mul, Value.cells, List.toList_toArray, zerosA, List.replicate, List.flatten, List.append_nil]; rfl) | (dsimp only [List.set, List.append, List.cons_append, List.nil_append, splice, AV.cells, List.map, List.map_cons, List.map_nil, List.take, List.drop, Nat.zero_add, Nat.add_zero, Nat.reduceAdd, Nat.reduceMul, Nat.zero_mul, Value.cells, List.toList_toArray, zerosA, List.replicate, List.flatten, List.append_nil]; done) | rfl) (by first | rfl | simp) | exact SrcA.row TyD.ax (by repeat (first | exact List.Mem.head _ | refine List.Mem.tail _ ?_)) (by first | rfl | simp)) (by first | rfl | (simp [AV.cells, AV.one, *]; done) | simp [AV.cells, AV.one, Value.oneCell', *]) (by unfold maxLen; omega) (by omega) (by first | (dsimp only [List.set, List.append, List.cons_append, List.nil_append, splice, AV.cells, List.map, List.map_cons, List.map_nil, List.take, List.drop, Nat.zero_add, Nat.add_zero, Nat.reduceAdd, Nat.reduceMul, Nat.zero_mul, Value.cells, List.toList_toArray, zerosA, List.replicate, List.flatten, List.append_nil]; rfl) | (dsimp only [List.set, List.append, List.cons_append, List.nil_append, splice, AV.cells, List.map, List.map_cons, List.map_nil, List.take, List.drop, Nat.zero_add, Nat.add_zero, Nat.reduceAdd, Nat.reduceMul, Nat.zero_mul, Value.cells, List.toList_toArray, zerosA, List.replicate, List.flatten, List.append_nil]; done) | rfl) (fun _ => by first | (dsimp only [List.set]; rfl) | (dsimp only [List.set]; done) | rfl) ?_) | (refine AO.append' (i := 2) rfl rfl rfl rfl (by rfl) (by rfl) rfl rfl rfl (by first | exact SrcA.nil TyD.ax | exact SrcA.ro TyD.ax (by first | rfl | simp) (Nat.le_of_ble_eq_true rfl) | exact SrcA.blk TyD.ax (by repeat (first | exact List.Mem.head _ | refine List.Mem.tail _ ?_)) (by first | (dsimp only [List.set, List.append, List.cons_append, List.nil_append, splice, AV.cells, List.map, List.map_cons, List.map_nil, List.take, List.drop, Nat.zero_add, Nat.add_zero, Nat.reduceAdd, Nat.reduceMul, Nat.zero_mul, Value.cells, List.toList_toArray, zerosA, List.replicate, List.flatten, List.append_nil]; rfl) | (dsimp only [List.set, List.append, List.cons_append, List.nil_append, splice, AV.cells, List.map, List.map_cons, List.map_nil, List.take, List.drop, Nat.zero_add, Nat.add_zero, Nat.reduceAdd, Nat.reduceMul, Nat.zero_mul, Value.cells, List.toList_toArray, zerosA, List.replicate, List.flatten, List.append_nil]; done) | rfl) (by first | rfl | simp) | exact SrcA.row TyD.ax (by repeat (first | exact List.Mem.head _ | refine List.Mem.tail _ ?_)) (by first | rfl | simp)) (by first | rfl | (simp [AV.cells, AV.one, *]; done) | simp [AV.cells, AV.one, Value.oneCell', *]) (by unfold maxLen; omega) (by omega) (by first | (dsimp only [List.set, List.append, List.cons_append, List.nil_append, splice, AV.cells, List.map, List.map_cons, List.map_nil, List.take, List.drop, Nat.zero_add, Nat.add_zero, Nat.reduceAdd, Nat.reduceMul, Nat.zero_mul, Value.cells, List.toList_toArray, zerosA, List.replicate, List.flatten, List.append_nil]; rfl) | (dsimp only [List.set, List.append, List.cons_append, List.nil_append, splice, AV.cells, List.map, List.map_cons, List.map_nil, List.take, List.drop, Nat.zero_add, Nat.add_zero, Nat.reduceAdd, Nat.reduceMul, Nat.zero_mul, Value.cells, List.toList_toArray, zerosA, List.replicate, List.flatten, List.append_nil]; done) | rfl) (fun _ => by first | (dsimp only [List.set]; rfl) | (dsimp only [List.set]; done) | rfl) ?_) | (refine AO.append' (i := 3) rfl rfl rfl rfl (by rfl) (by rfl) rfl rfl rfl (by first | exact SrcA.nil TyD.ax | exact SrcA.ro TyD.ax (by first | rfl | simp) (Nat.le_of_ble_eq_true rfl) | exact SrcA.blk TyD.ax (by repeat (first | exact List.Mem.head _ | refine List.Mem.tail _ ?_)) (by first | (dsimp only [List.set, List.append, List.cons_append, List.nil_append, splice, AV.cells, List.map, List.map_cons, List.map_nil, List.take, List.drop, Nat.zero_add, Nat.add_zero, Nat.reduceAdd, Nat.reduceMul, Nat.zero_mul, Value.cells, List.toList_toArray, zerosA, List.replicate, List.flatten, List.append_nil]; rfl) | (dsimp only [List.set, List.append, List.cons_append, List.nil_append, splice, AV.cells, List.map, List.map_cons, List.map_nil, List.take, List.drop, Nat.zero_add, Nat.add_zero, Nat.reduceAdd, Nat.reduceMul, Nat.zero_mul, Value.cells, List.toList_toArray, zerosA, List.replicate, List.flatten, List.append_nil]; done) | rfl) (by first | rfl | simp) | exact SrcA.row TyD.ax (by repeat (first | exact List.Mem.head _ | refine List.Mem.tail _ ?_)) (by first | rfl | simp)) (by first | rfl | (simp [AV.cells, AV.one, *]; done) | simp [AV.cells, AV.one, Value.oneCell', *]) (by unfold maxLen; omega) (by omega) (by first | (dsimp only [List.set, List.append, List.cons_append, List.nil_append, splice, AV.cells, List.map, List.map_cons, List.map_nil, List.take, List.drop, Nat.zero_add, Nat.add_zero, Nat.reduceAdd, Nat.reduceMul, Nat.zero_mul, Value.cells, List.toList_toArray, zerosA, List.replicate, List.flatten, List.append_nil]; rfl) | (dsimp only [List.set, List.append, List.cons_append, List.nil_append, splice, AV.cells, List.map, List.map_cons, List.map_nil, List.take, List.drop, Nat.zero_add, Nat.add_zero, Nat.reduceAdd, Nat.reduceMul, Nat.zero_mul, Value.cells, List.toList_toArray, zerosA, List.replicate, List.flatten, List.append_nil]; done) | rfl) (fun _ => by first | (dsimp only [List.set]; rfl) | (dsimp only [List.set]; done) | rfl) ?_) | (refine AO.append' (i := 4) rfl rfl rfl rfl (by rfl) (by rfl) rfl rfl rfl (by first | exact SrcA.nil TyD.ax | exact SrcA.ro TyD.ax (by first | rfl | simp) (Nat.le_of_ble_eq_true rfl) | exact SrcA.blk TyD.ax (by repeat (first | exact List.Mem.head _ | refine List.Mem.tail _ ?_)) (by first | (dsimp only [List.set, List.append, List.cons_append, List.nil_append, splice, AV.cells, List.map, List.map_cons, List.map_nil, List.take, List.drop, Nat.zero_add, Nat.add_zero, Nat.reduceAdd, Nat.reduceMul, Nat.zero_mul, Value.cells, List.toList_toArray, zerosA, List.replicate, List.flatten, List.append_nil]; rfl) | (dsimp only [List.set, List.append, List.cons_append, List.nil_append, splice, AV.cells, List.map, List.map_cons, List.map_nil, List.take, List.drop, Nat.zero_add, Nat.add_zero, Nat.reduceAdd, Nat.reduceMul, Nat.zero_mul, Value.cells, List.toList_toArray, zerosA, List.replicate, List.flatten, List.append_nil]; done) | rfl) (by first | rfl | simp) | exact SrcA.row TyD.ax (by repeat (first | exact List.Mem.head _ | refine List.Mem.tail _ ?_)) (by first | rfl | simp)) (by first | rfl | (simp [AV.cells, AV.one, *]; done) | simp [AV.cells, AV.one, Value.oneCell', *]) (by unfold maxLen; omega) (by omega) (by first | (dsimp only [List.set, List.append, List.cons_append, List.nil_append, splice, AV.cells, List.map, List.map_cons, List.map_nil, List.take, List.drop, Nat.zero_add, Nat.add_zero, Nat.reduceAdd, Nat.reduceMul, Nat.zero_mul, Value.cells, List.toList_toArray, zerosA, List.replicate, List.flatten, List.append_nil]; rfl) | (dsimp only [List.set, List.append, List.cons_append, List.nil_append, splice, AV.cells, List.map, List.map_cons, List.map_nil, List.take, List.drop, Nat.zero_add, Nat.add_zero, Nat.reduceAdd, Nat.reduceMul, Nat.zero_mul, Value.cells, List.toList_toArray, zerosA, List.replicate, List.flatten, List.append_nil]; done) | rfl) (fun _ => by first | (dsimp only [List.set]; rfl) | (dsimp only [List.set]; done) | rfl) ?_) | (refine AO.append' (i := 5) rfl rfl rfl rfl (by rfl) (by rfl) rfl rfl rfl (by first | exact SrcA.nil TyD.ax | exact SrcA.ro TyD.ax (by first | rfl | simp) (Nat.le_of_ble_eq_true rfl) | exact SrcA.blk TyD.ax (by repeat (first | exact List.Mem.head _ | refine List.Mem.tail _ ?_)) (by first | (dsimp only [List.set, List.append, List.cons_append, List.nil_append, splice, AV.cells, List.map, List.map_cons, List.map_nil, List.take, List.drop, Nat.zero_add, Nat.add_zero, Nat.reduceAdd, Nat.reduceMul, Nat.zero_mul, Value.cells, List.toList_toArray, zerosA, List.replicate, List.flatten, List.append_nil]; rfl) | (dsimp only [List.set, List.append, List.cons_append, List.nil_append, splice, AV.cells, List.map, List.map_cons, List.map_nil, List.take, List.drop, Nat.zero_add, Nat.add_zero, Nat.reduceAdd, Nat.reduceMul, Nat.zero_mul, Value.cells, List.toList_toArray, zerosA, List.replicate, List.flatten, List.append_nil]; done) | rfl) (by first | rfl | simp) | exact SrcA.row TyD.ax (by repeat (first | exact List.Mem.head _ | refine List.Mem.tail _ ?_)) (by first | rfl | simp)) (by first | rfl | (simp [AV.cells, AV.one, *]; done) | simp [AV.cells, AV.one, Value.oneCell', *]) (by unfold maxLen; omega) (by omega) (by first | (dsimp only [List.set, List.append, List.cons_append, List.nil_append, splice, AV.cells, List.map, List.map_cons, List.map_nil, List.take, List.drop, Nat.zero_add, Nat.add_zero, Nat.reduceAdd, Nat.reduceMul, Nat.zero_mul, Value.cells, List.toList_toArray, zerosA, List.replicate, List.flatten, List.append_nil]; rfl) | (dsimp only [List.set, List.append, List.cons_append, List.nil_append, splice, AV.cells, List.map, List.map_cons, List.map_nil, List.take, List.drop, Nat.zero_add, Nat.add_zero, Nat.reduceAdd, Nat.reduceMul, Nat.zero_mul, Value.cells, List.toList_toArray, zerosA, List.replicate, List.flatten, List.append_nil]; done) | rfl) (fun _ => by first | (dsimp only [List.set]; rfl) | (dsimp only [List.set]; done) | rfl) ?_)
    intro V hV
    refine AO.op (O.assign rfl rfl) rfl rfl rfl ?_
    refine AO.nil ?_
    refine AQ.blockN ?_
    refine AQ.thenN ?_
    refine AW.region ?_
    refine AO.op (O.add rfl rfl rfl (by first | exact wI64 (by omega) | rfl)) rfl rfl rfl ?_
    refine AO.op (O.move rfl rfl) rfl rfl rfl ?_
    refine AO.nil ?_
    refine AQ.loopN _ _ _ (by omega) (⟨k + 1, V, by omega, hV, rfl, rfl, by rw [fullW_succ k (by omega), show (fullW (k + 1)).length = (fullW k).length + 1 by simp [fullW_len]]⟩) (by repeat (first | exact envNil | refine envCons rfl ?_)) ⟨_, by repeat (first | exact List.Sublist.slnil | refine List.Sublist.cons_cons _ ?_ | refine List.Sublist.cons _ ?_), List.Perm.refl _⟩
  · skip
    have hlt : k = m := by have := of_decide_eq_false hlt; omega
    subst hlt
    refine AW.exit ?_
    refine AQ.thenX ?_
    refine AQ.loopX ?_
    refine AQ.blockX rfl ?_
    refine AQ.thenN ?_
    refine AW.seq ?_
    refine AW.region ?_
    refine AO.op (O.move rfl rfl) rfl rfl rfl ?_
    refine AO.op (O.assign rfl rfl) rfl rfl rfl ?_
    refine AO.nil ?_
    refine AQ.thenN ?_
    refine AW.ret ?_
    refine AQ.g ?_
    first | (refine G.freezeRow 0 rfl [2] (by repeat (first | exact frNil | refine frCons rfl ?_)) ?_) | (refine G.freezeRow 1 rfl [2] (by repeat (first | exact frNil | refine frCons rfl ?_)) ?_) | (refine G.freezeRow 2 rfl [2] (by repeat (first | exact frNil | refine frCons rfl ?_)) ?_) | (refine G.freezeRow 3 rfl [2] (by repeat (first | exact frNil | refine frCons rfl ?_)) ?_) | (refine G.freezeRow 4 rfl [2] (by repeat (first | exact frNil | refine frCons rfl ?_)) ?_)
    refine AQ.u ?_
    dsimp only [List.map, List.eraseIdx, List.cons_append, List.nil_append]
    refine AQ.ret1 rfl rfl ⟨_, List.nil_sublist _, .nil⟩ (⟨rfl, rfl⟩)
end Go.Proofs.Ytlcoanbdaephiaa.Ob
